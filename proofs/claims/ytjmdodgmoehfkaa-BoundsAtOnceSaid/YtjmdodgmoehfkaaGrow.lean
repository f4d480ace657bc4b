/- Worlds in which one block was written, and new memory made. No program in sight. -/
import Derived.Test.YtjmdodgmoehfkaaWk4
namespace Go.Proofs.Ytjmdodgmoehfkaa

theorem grow_refl (w : World) (g : Nat) : w.grownBy w (some g) := ⟨rfl, rfl, rfl, Nat.le_refl _, fun _ _ _ => rfl⟩
theorem grow_set {w w1 w2 : World} {g : Nat} (h : w.grownBy w1 (some g)) (k : w1.grownBy w2 (some g)) : w.grownBy w2 (some g) :=
  ⟨k.os.trans h.os, k.tape.trans h.tape, k.output.trans h.output, Nat.le_trans h.size k.size, fun i hi hn => (k.block i (Nat.lt_of_lt_of_le hi h.size) hn).trans (h.block i hi hn)⟩
theorem grow_ext {w w1 w2 : World} {g : Nat} (h : w.grownBy w1 (some g)) (k : Ext w1 w2) : w.grownBy w2 (some g) :=
  grow_set h ⟨k.below.os, k.below.tape, k.below.output, k.size, fun i hi _ => k.below.block i hi⟩

end Go.Proofs.Ytjmdodgmoehfkaa
