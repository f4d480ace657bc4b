/- Orders that meet again: what a state of a region that draws its order is known by, proved once. No program in sight. -/
import Derived.Test.YtjmdodgmoehfkaaWk10
namespace Go.Proofs.Ytjmdodgmoehfkaa
open Go.RowKit

section
variable {P : Program} {ops : Array Oper} {Q : Exit → Act → World → Prop} {S S2 : World → Prop} {F : Nat → Bool}
theorem any_have {n n1 : Nat} {L L1 : Array Bool} {a : Act} {w : World} (R : Act → World → Prop) (h1 : ∀ a W, R a W → wpAnyF P ops Q S F n1 L1 a W) (h2 : (∀ a W, R a W → wpAnyF P ops Q S F n1 L1 a W) → wpAnyF P ops Q S F n L a w) : wpAnyF P ops Q S F n L a w := h2 h1
theorem anyg_have {n n1 : Nat} {L L1 : Array Bool} {a : Act} {w : World} (R : Act → World → Prop) (h1 : ∀ a W, R a W → wpAnyG P ops Q S F S2 n1 L1 a W) (h2 : (∀ a W, R a W → wpAnyG P ops Q S F S2 n1 L1 a W) → wpAnyG P ops Q S F S2 n L a w) : wpAnyG P ops Q S F S2 n L a w := h2 h1
theorem any_three {i k l n : Nat} {L L1 L2 L3 : Array Bool} {a : Act} {w : World} (hr : Region.ready .any ops L = [i, k, l]) (hL : L.setIfInBounds i true = L1) (hL2 : L.setIfInBounds k true = L2) (hL3 : L.setIfInBounds l true = L3)
    (h : wpOp P ops Q i (fun a' w' => (F i = false → S w → S w') ∧ wpAnyF P ops Q S F n L1 a' w') a w)
    (h2 : wpOp P ops Q k (fun a' w' => (F k = false → S w → S w') ∧ wpAnyF P ops Q S F n L2 a' w') a w)
    (h3 : wpOp P ops Q l (fun a' w' => (F l = false → S w → S w') ∧ wpAnyF P ops Q S F n L3 a' w') a w) : wpAnyF P ops Q S F (n + 1) L a w := by
  subst hL; subst hL2; subst hL3
  refine ⟨fun h0 => (by rw [hr] at h0; cases h0), fun j hj => ?_⟩
  rw [hr] at hj
  simp only [List.mem_cons, List.not_mem_nil, or_false] at hj
  rcases hj with rfl | rfl | rfl
  · exact h
  · exact h2
  · exact h3
theorem any_four {i k l p n : Nat} {L L1 L2 L3 L4 : Array Bool} {a : Act} {w : World} (hr : Region.ready .any ops L = [i, k, l, p]) (hL : L.setIfInBounds i true = L1) (hL2 : L.setIfInBounds k true = L2) (hL3 : L.setIfInBounds l true = L3) (hL4 : L.setIfInBounds p true = L4)
    (h : wpOp P ops Q i (fun a' w' => (F i = false → S w → S w') ∧ wpAnyF P ops Q S F n L1 a' w') a w)
    (h2 : wpOp P ops Q k (fun a' w' => (F k = false → S w → S w') ∧ wpAnyF P ops Q S F n L2 a' w') a w)
    (h3 : wpOp P ops Q l (fun a' w' => (F l = false → S w → S w') ∧ wpAnyF P ops Q S F n L3 a' w') a w)
    (h4 : wpOp P ops Q p (fun a' w' => (F p = false → S w → S w') ∧ wpAnyF P ops Q S F n L4 a' w') a w) : wpAnyF P ops Q S F (n + 1) L a w := by
  subst hL; subst hL2; subst hL3; subst hL4
  refine ⟨fun h0 => (by rw [hr] at h0; cases h0), fun j hj => ?_⟩
  rw [hr] at hj
  simp only [List.mem_cons, List.not_mem_nil, or_false] at hj
  rcases hj with rfl | rfl | rfl | rfl
  · exact h
  · exact h2
  · exact h3
  · exact h4
end
/-! a block is not that of a row of the call's own -/
theorem own_new {w : World} {base g : Nat} {e : TypeId} {k n : Nat} {v : Value} {xs : List Value} (h : w.ownsRow base e k v n xs) (hg : w.heap.size = g) : some g ≠ v.ownBlock := fun e1 => by
  have := (h.lt g e1.symm).2
  omega
section
variable {N : Nat} {m : List (Nat × Value)} {a : Act} {P : Program} {ops : Array Oper} {Q : Exit → Act → World → Prop} {i : Nat} {w : World} {o : Oper} {K : Act → World → Prop} {d : Nat}
/-- append onto a row of the call's own, with where it lies then -/
theorem o_appB {t e : TypeId} {z : Value} {k bytes : Nat} (E : El P t e z k bytes) (hF : Sl N m a) (ho : ops[i]? = some o) (hw : Region.wanted o (yielded ops a.tmps) = true) (hd : o.dst = some d) (hN : Nat.blt d N = true) {s x : Operand}
    (hop : o.op = .call { callee := .builtin .append, args := #[s, x], argTypes := #[t, t] }) {B : Option Addr} {n c0 : Nat} (hs : a.eval s = .slice B n c0) {A : Option Addr} {n2 c : Nat} (hx : a.eval x = .slice A n2 c)
    {base : Nat} {xs ys zs : List Value} (hown : w.ownsRow base e k (.slice B n c0) n xs) (hr : Cel w k A n2 ys) (hbase : base ≤ w.heap.size)
    (h63 : n + n2 ≤ 9223372036854775807) (hbytes : (n + n2) * bytes ≤ 140737488355328) (hz : xs ++ ys = zs)
    (h : ∀ A' c' w' a', Sl N ((d, .slice A' (n + n2) c') :: m) a' → w'.ownsRow base e k (.slice A' (n + n2) c') (n + n2) zs → w.grownBy w' (Value.slice B n c0).ownBlock → n + n2 ≤ c' → c' ≤ 9223372036854775807 →
      (∀ g, g < w.heap.size → some g ≠ (Value.slice B n c0).ownBlock → some g ≠ (Value.slice A' (n + n2) c').ownBlock) → K a' w') : wpOp P ops Q i K a w := by
  subst hz
  refine op_app E ho hw hop hs hx hown hr hbase h63 hbytes fun v' w' h1 h2 h5 => ?_
  obtain ⟨A', c', rfl, h3, h4⟩ := own_any h1
  refine h A' c' w' _ (by rw [hd]; exact hF.put hN) h1 h2 h3 h4 fun g hg hne => ?_
  rcases h5 with h5 | h5
  · rw [h5]; exact hne
  · rw [h5]; exact fun e => by injection e with e; omega
end
theorem ne_slice {g n c : Nat} {b : Nat} (h : g ≠ b) : some g ≠ (Value.slice (some ⟨b, 0, none⟩) n c).ownBlock := fun e => h (by injection e)
theorem ne_nil (g n c : Nat) : some g ≠ (Value.slice none n c).ownBlock := fun e => by cases e

end Go.Proofs.Ytjmdodgmoehfkaa
