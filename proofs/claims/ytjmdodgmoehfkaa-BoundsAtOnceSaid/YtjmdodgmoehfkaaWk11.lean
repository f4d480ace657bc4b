/- Equality of bools. No program in sight. -/
import Derived.Test.YtjmdodgmoehfkaaSeq3
namespace Go.Proofs.Ytjmdodgmoehfkaa
open Go.RowKit
section
variable {P : Program} {ρ : Operand → Value} {W : World} {d : Option Tmp} {t xt yt : TypeId} {p : String} {af : Array Edge} {g : Option (Nat × Bool)} {x y : Operand} {a b a' b' r : Bool}
theorem rn_eqB (hu : P.underlying xt = some .bool) (hx : ρ x = .bool a) (hy : ρ y = .bool b) (ha : a = a') (hb : b = b') (hr : (a' == b') = r) : (execOp ρ ⟨d, .binOp .eql xt x y yt, t, p, af, g⟩).run P W = .ok (.value (.bool r)) W := by
  subst ha hb hr
  exact rn_bin hx hy guard_bool (by simp [binOp, run_equal_bool W xt a b hu])
theorem rn_neB (hu : P.underlying xt = some .bool) (hx : ρ x = .bool a) (hy : ρ y = .bool b) (ha : a = a') (hb : b = b') (hr : (a' != b') = r) : (execOp ρ ⟨d, .binOp .neq xt x y yt, t, p, af, g⟩).run P W = .ok (.value (.bool r)) W := by
  subst ha hb hr
  exact rn_bin hx hy guard_bool (by simp [binOp, run_equal_bool W xt a b hu]; cases a <;> cases b <;> rfl)
end
section
variable {P : Program} {ops : Array Oper} {Q : Exit → Act → World → Prop} {S S2 : World → Prop} {F : Nat → Bool}
theorem anyg_three {i k l n : Nat} {L L1 L2 L3 : Array Bool} {a : Act} {w : World} (hr : Region.ready .any ops L = [i, k, l]) (hL : L.setIfInBounds i true = L1) (hL2 : L.setIfInBounds k true = L2) (hL3 : L.setIfInBounds l true = L3)
    (h : wpOp P ops Q i (fun a' w' => ((F i = false → S w → S w') ∧ (S2 w → S2 w')) ∧ wpAnyG P ops Q S F S2 n L1 a' w') a w)
    (h2 : wpOp P ops Q k (fun a' w' => ((F k = false → S w → S w') ∧ (S2 w → S2 w')) ∧ wpAnyG P ops Q S F S2 n L2 a' w') a w)
    (h3 : wpOp P ops Q l (fun a' w' => ((F l = false → S w → S w') ∧ (S2 w → S2 w')) ∧ wpAnyG P ops Q S F S2 n L3 a' w') a w) : wpAnyG P ops Q S F S2 (n + 1) L a w := by
  subst hL; subst hL2; subst hL3
  refine ⟨fun h0 => (by rw [hr] at h0; cases h0), fun j hj => ?_⟩
  rw [hr] at hj
  simp only [List.mem_cons, List.not_mem_nil, or_false] at hj
  rcases hj with rfl | rfl | rfl
  · exact h
  · exact h2
  · exact h3
theorem anyg_four {i k l p n : Nat} {L L1 L2 L3 L4 : Array Bool} {a : Act} {w : World} (hr : Region.ready .any ops L = [i, k, l, p]) (hL : L.setIfInBounds i true = L1) (hL2 : L.setIfInBounds k true = L2) (hL3 : L.setIfInBounds l true = L3) (hL4 : L.setIfInBounds p true = L4)
    (h : wpOp P ops Q i (fun a' w' => ((F i = false → S w → S w') ∧ (S2 w → S2 w')) ∧ wpAnyG P ops Q S F S2 n L1 a' w') a w)
    (h2 : wpOp P ops Q k (fun a' w' => ((F k = false → S w → S w') ∧ (S2 w → S2 w')) ∧ wpAnyG P ops Q S F S2 n L2 a' w') a w)
    (h3 : wpOp P ops Q l (fun a' w' => ((F l = false → S w → S w') ∧ (S2 w → S2 w')) ∧ wpAnyG P ops Q S F S2 n L3 a' w') a w)
    (h4 : wpOp P ops Q p (fun a' w' => ((F p = false → S w → S w') ∧ (S2 w → S2 w')) ∧ wpAnyG P ops Q S F S2 n L4 a' w') a w) : wpAnyG P ops Q S F S2 (n + 1) L a w := by
  subst hL; subst hL2; subst hL3; subst hL4
  refine ⟨fun h0 => (by rw [hr] at h0; cases h0), fun j hj => ?_⟩
  rw [hr] at hj
  simp only [List.mem_cons, List.not_mem_nil, or_false] at hj
  rcases hj with rfl | rfl | rfl | rfl
  · exact h
  · exact h2
  · exact h3
  · exact h4
end
theorem own_grownB {w w' : World} {base : Nat} {e : TypeId} {k n b : Nat} {v : Value} {xs : List Value} (h : w.ownsRow base e k v n xs) (hg : w.grownBy w' (some b)) (hne : some b ≠ v.ownBlock) : w'.ownsRow base e k v n xs :=
  h.kept hg (by
    cases hv : v.ownBlock with
    | none => exact .inl rfl
    | some g => exact .inr fun e1 => hne (by rw [hv]; exact e1.symm))
end Go.Proofs.Ytjmdodgmoehfkaa
