/- Slices of structs whose cells are known, read flat. No program in sight. -/
import Derived.Test.YtjmdodgmoehfkaaTab
namespace Go.Proofs.Ytjmdodgmoehfkaa
open Go.RowKit

variable {S : Nat → Prop} {α : Type}
theorem rec_of_chunks {f : α → List Value} {k : Nat} (hk : ∀ x, (f x).length = k) : ∀ (l : List α) (xs : List Value), xs.length = l.length * k → (∀ i (h : i < l.length), chunk k xs i = f l[i]) → xs = recVals f l
  | [], xs, hl, _ => by
    have : xs = [] := List.eq_nil_of_length_eq_zero (by simpa using hl)
    rw [this]; rfl
  | x :: l, xs, hl, h => by
    have h0 := h 0 (by simp)
    simp only [chunk, Nat.zero_mul, List.drop_zero, List.getElem_cons_zero] at h0
    rw [recVals_cons, ← h0, ← rec_of_chunks hk l (xs.drop k) (by rw [List.length_drop, hl, List.length_cons, Nat.add_mul, Nat.one_mul, Nat.add_sub_cancel]) (fun i hi => by
      have := h (i + 1) (by simpa using hi)
      simp only [chunk, List.getElem_cons_succ, List.drop_drop] at this ⊢
      rw [← this, Nat.add_mul, Nat.one_mul, Nat.add_comm]), List.take_append_drop]
theorem RSl.recFl {f : α → List Value} {k : Nat} (hk : ∀ x, (f x).length = k) {w : World} {v : Value} {l : List α} (h : RSl S k (fun _ cs x => cs = f x) w v l) : Fl S w k v l.length (recVals f l) := by
  obtain ⟨A, cap, xs, hv, hc, hl, hr, hs⟩ := h
  have := rec_of_chunks hk l xs hl.1 hr
  subst this
  exact ⟨A, cap, hv, hc, hl, hs⟩

end Go.Proofs.Ytjmdodgmoehfkaa
