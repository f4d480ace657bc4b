/- What Far, Greatest and Least give: plain. -/
import Derived.Test.YtjmdodgmoehfkaaBndF
namespace Go.Proofs.Ytjmdodgmoehfkaa
open Go.RowKit

def T (t : List (List Int)) (i k : Nat) : Int := (t.getD i []).getD k 0
/-- a system, its table and the error -/
def SysP (n : Int) (l : List E3) (t : List (List Int)) (er : Int) : Prop :=
  (er = 150 ∧ vOk n l = false ∧ t = []) ∨ (er = 151 ∧ vOk n l = true ∧ P15.Neg (eds l) ∧ t = []) ∨ (er = 0 ∧ vOk n l = true ∧ ¬ P15.Neg (eds l) ∧ DistT l n.toNat t)
theorem SysP.unique {n : Int} {l : List E3} {t t' : List (List Int)} {er er' : Int} (h : SysP n l t er) (k : SysP n l t' er') : er = er' ∧ t = t' := by
  rcases h with ⟨h1, h2, h3⟩ | ⟨h1, h2, h3, h4⟩ | ⟨h1, h2, h3, h4⟩ <;> rcases k with ⟨k1, k2, k3⟩ | ⟨k1, k2, k3, k4⟩ | ⟨k1, k2, k3, k4⟩
  · exact ⟨by omega, by rw [h3, k3]⟩
  · rw [h2] at k2; cases k2
  · rw [h2] at k2; cases k2
  · rw [h2] at k2; cases k2
  · exact ⟨by omega, by rw [h4, k4]⟩
  · exact absurd h3 k3
  · rw [h2] at k2; cases k2
  · exact absurd k3 h3
  · exact ⟨by omega, h4.unique k4⟩
theorem SysP.zero {n : Int} {l : List E3} {t : List (List Int)} {er : Int} (h : SysP n l t er) (h0 : er = 0) : vOk n l = true ∧ ¬ P15.Neg (eds l) ∧ DistT l n.toNat t := by
  rcases h with ⟨h1, _⟩ | ⟨h1, _⟩ | ⟨_, h2, h3, h4⟩
  · omega
  · omega
  · exact ⟨h2, h3, h4⟩
theorem SysP.not {n : Int} {l : List E3} {t : List (List Int)} {er : Int} (h : SysP n l t er) (h0 : er ≠ 0) : t = [] ∧ (er = 150 ∨ er = 151) := by
  rcases h with ⟨h1, _, h3⟩ | ⟨h1, _, _, h4⟩ | ⟨h1, _⟩
  · exact ⟨h3, .inl h1⟩
  · exact ⟨h4, .inr h1⟩
  · exact absurd h1 h0
/-- what Far gives -/
def FarP (n : Int) (l : List E3) (t : List (List Int)) (cyc : List Int) (er : Int) : Prop := SysP n l t er ∧ ((er = 151 ∧ CycP l cyc) ∨ (er ≠ 151 ∧ cyc = []))
/-- the error of Greatest and Least, for a table -/
def solveE (nn : Nat) (t : List (List Int)) (a v : Int) : Int :=
  if a < 0 ∨ (nn : Int) ≤ a then 1 else if ∃ i, i < nn ∧ (T t 0 i = 1152921504606846976 ∨ T t i 0 = 1152921504606846976) then 2 else if v < -T t a.toNat 0 ∨ T t 0 a.toNat < v then 1 else 0
theorem solve_1 {nn : Nat} {t : List (List Int)} {a v : Int} (h : a < 0 ∨ (nn : Int) ≤ a) : solveE nn t a v = 1 := by rw [solveE, if_pos h]
theorem solve_2 {nn : Nat} {t : List (List Int)} {a v : Int} (h : ¬ (a < 0 ∨ (nn : Int) ≤ a)) {i : Nat} (hi : i < nn) (h2 : T t 0 i = 1152921504606846976 ∨ T t i 0 = 1152921504606846976) : solveE nn t a v = 2 := by rw [solveE, if_neg h, if_pos ⟨i, hi, h2⟩]
theorem solve_3 {nn : Nat} {t : List (List Int)} {a v : Int} (h : ¬ (a < 0 ∨ (nn : Int) ≤ a)) (h2 : ∀ i, i < nn → ¬ (T t 0 i = 1152921504606846976 ∨ T t i 0 = 1152921504606846976)) (h3 : v < -T t a.toNat 0 ∨ T t 0 a.toNat < v) : solveE nn t a v = 1 := by
  rw [solveE, if_neg h, if_neg (fun ⟨i, hi, hx⟩ => h2 i hi hx), if_pos h3]
theorem solve_0 {nn : Nat} {t : List (List Int)} {a v : Int} (h : ¬ (a < 0 ∨ (nn : Int) ≤ a)) (h2 : ∀ i, i < nn → ¬ (T t 0 i = 1152921504606846976 ∨ T t i 0 = 1152921504606846976)) (h3 : ¬ (v < -T t a.toNat 0 ∨ T t 0 a.toNat < v)) : solveE nn t a v = 0 := by
  rw [solveE, if_neg h, if_neg (fun ⟨i, hi, hx⟩ => h2 i hi hx), if_neg h3]
theorem solve_get {nn : Nat} {t : List (List Int)} {a v : Int} (h : solveE nn t a v = 0) : (0 ≤ a ∧ a < nn) ∧ (∀ i, i < nn → T t 0 i ≠ 1152921504606846976 ∧ T t i 0 ≠ 1152921504606846976) ∧ -T t a.toNat 0 ≤ v ∧ v ≤ T t 0 a.toNat := by
  unfold solveE at h
  by_cases h1 : a < 0 ∨ (nn : Int) ≤ a
  · rw [if_pos h1] at h; omega
  · rw [if_neg h1] at h
    by_cases h2 : ∃ i, i < nn ∧ (T t 0 i = 1152921504606846976 ∨ T t i 0 = 1152921504606846976)
    · rw [if_pos h2] at h; omega
    · rw [if_neg h2] at h
      by_cases h3 : v < -T t a.toNat 0 ∨ T t 0 a.toNat < v
      · rw [if_pos h3] at h; omega
      · exact ⟨by omega, fun i hi => ⟨fun e => h2 ⟨i, hi, .inl e⟩, fun e => h2 ⟨i, hi, .inr e⟩⟩, by omega⟩
def solR (n : Int) (t : List (List Int)) (er a v : Int) : Int := if er ≠ 0 then er else solveE n.toNat t a v
theorem solR_0 {n : Int} {t : List (List Int)} {er a v e : Int} (he : e = solR n t er a v) (h : e = 0) : er = 0 ∧ solveE n.toNat t a v = 0 := by
  rw [h] at he
  unfold solR at he
  split at he
  · omega
  · rename_i h1; exact ⟨by omega, he.symm⟩
def greatL (_n : Int) (t : List (List Int)) (a v : Int) (k : Nat) : List Int := (List.range k).map fun i => min (T t 0 i) (v + T t a.toNat i)
def leastL (_n : Int) (t : List (List Int)) (a v : Int) (k : Nat) : List Int := (List.range k).map fun i => max (-T t i 0) (v - T t i a.toNat)
theorem greatL_step (n : Int) (t : List (List Int)) (a v : Int) (k : Nat) : greatL n t a v k ++ [min (T t 0 k) (v + T t a.toNat k)] = greatL n t a v (k + 1) := by rw [greatL, greatL, List.range_succ, List.map_append]; rfl
theorem leastL_step (n : Int) (t : List (List Int)) (a v : Int) (k : Nat) : leastL n t a v k ++ [max (-T t k 0) (v - T t k a.toNat)] = leastL n t a v (k + 1) := by rw [leastL, leastL, List.range_succ, List.map_append]; rfl
/-- what Greatest, or Least, gives -/
def SolP (F : Int → List (List Int) → Int → Int → Nat → List Int) (n : Int) (l : List E3) (a v : Int) (r : List Int) (e : Int) : Prop :=
  ∃ t er, SysP n l t er ∧ e = solR n t er a v ∧ r = if e = 0 then F n t a v n.toNat else []
theorem SolP.unique {F : Int → List (List Int) → Int → Int → Nat → List Int} {n : Int} {l : List E3} {a v : Int} {r r' : List Int} {e e' : Int} (h : SolP F n l a v r e) (k : SolP F n l a v r' e') : r = r' ∧ e = e' := by
  obtain ⟨t, er, h1, h2, h3⟩ := h
  obtain ⟨t', er', k1, k2, k3⟩ := k
  obtain ⟨rfl, rfl⟩ := h1.unique k1
  have : e = e' := by rw [h2, k2]
  subst this
  exact ⟨by rw [h3, k3], rfl⟩
/-- a row's numbers are small -/
theorem DistT.sm {l : List E3} {nn : Nat} {t : List (List Int)} (h : DistT l nn t) (i k : Nat) (hi : i < nn) (hk : k < nn) : T t i k = 1152921504606846976 ∨ (-9007199254740992 ≤ T t i k ∧ T t i k ≤ 9007199254740992) := h.small i k hi hk

def few (n : Int) (l : List E3) : Bool := decide (n ≤ 8 ∧ l.length ≤ 30)
theorem list_eqI {a b : List Int} (hl : a.length = b.length) (h : ∀ j, j < a.length → a.getD j 0 = b.getD j 0) : a = b := by
  apply List.ext_getElem hl
  intro i h1 h2
  have := h i h1
  rw [List.getD_eq_getElem?_getD, List.getD_eq_getElem?_getD, List.getElem?_eq_getElem h1, List.getElem?_eq_getElem h2] at this
  exact this
theorem list_eqT {a b : List (List Int)} (hl : a.length = b.length) (h : ∀ j, j < a.length → a.getD j [] = b.getD j []) : a = b := by
  apply List.ext_getElem hl
  intro i h1 h2
  have := h i h1
  rw [List.getD_eq_getElem?_getD, List.getD_eq_getElem?_getD, List.getElem?_eq_getElem h1, List.getElem?_eq_getElem h2] at this
  exact this
theorem len_ne {α : Type} {a b : List α} (h : a.length ≠ b.length) : a ≠ b := fun e => h (by rw [e])
theorem getD_ne {α : Type} {a b : List α} {k : Nat} {d : α} (h : a.getD k d ≠ b.getD k d) : a ≠ b := fun e => h (by rw [e])
theorem SysP.neg151 {n : Int} {l : List E3} {t : List (List Int)} {er : Int} (h : SysP n l t er) (hv : vOk n l = true) (hn : P15.Neg (eds l)) : er = 151 := by
  rcases h with ⟨_, h2, _⟩ | ⟨h1, _⟩ | ⟨_, _, h3, _⟩
  · rw [hv] at h2; cases h2
  · exact h1
  · exact absurd hn h3
theorem SysP.is0 {n : Int} {l : List E3} {t : List (List Int)} {er : Int} (h : SysP n l t er) (hv : vOk n l = true) (hn : ¬ P15.Neg (eds l)) : er = 0 ∧ DistT l n.toNat t := by
  rcases h with ⟨_, h2, _⟩ | ⟨_, _, h3, _⟩ | ⟨h1, _, _, h4⟩
  · rw [hv] at h2; cases h2
  · exact absurd h3 hn
  · exact ⟨h1, h4⟩

/-! the chapter's examples -/
theorem isDist_pot {E : List P15.Ed} {F : Nat → Int} (hF : ∀ x ∈ E, F x.b ≤ F x.a + x.w) {u v : Nat} (hu : F u = 0) (hs : F v ≠ P15.none_) (hw : P15.Walk E u v (F v)) : P15.IsDist E u v (F v) :=
  ⟨fun W hW => ⟨hs, by have := P15.pot hF hW; omega⟩, fun _ => hw⟩
def exA : List E3 := [⟨0, 1, 3⟩]
def exB : List E3 := [⟨0, 1, 3⟩, ⟨1, 0, -5⟩]
def exC : List E3 := [⟨0, 1, 7⟩, ⟨1, 0, -2⟩, ⟨1, 2, 1⟩, ⟨0, 2, 9⟩, ⟨2, 0, 0⟩]
theorem exB_neg : P15.Neg (eds exB) := by
  refine ⟨0, 3 + -5, ?_, by omega⟩
  have h1 : P15.Walk (eds exB) 0 1 3 := P15.Walk.one (x := ⟨0, 1, 3⟩) (by simp [eds, exB, ed])
  exact h1.trans (P15.Walk.one (x := ⟨1, 0, -5⟩) (by simp [eds, exB, ed]))
theorem nil_noneg : ¬ P15.Neg (eds []) := P15.not_neg (F := fun _ => 0) fun x hx => by simp [eds] at hx
theorem nil_tab {t : List (List Int)} (h : DistT [] 2 t) : t = [[0, 1152921504606846976], [1152921504606846976, 0]] := by
  have nw : ∀ {u v : Nat} {W : Int}, P15.Walk (eds []) u v W → u = v ∧ W = 0 := fun hW => by
    cases hW with
    | nil => exact ⟨rfl, rfl⟩
    | snoc _ hx _ => simp [eds] at hx
  have d0 : ∀ i, P15.IsDist (eds []) i i 0 := fun i => ⟨fun W hW => ⟨by decide, by rw [(nw hW).2]; omega⟩, fun _ => .nil i⟩
  have d1 : ∀ i k, i ≠ k → P15.IsDist (eds []) i k P15.none_ := fun i k hk => ⟨fun W hW => absurd (nw hW).1 hk, fun h => absurd rfl h⟩
  refine h.unique (t' := [[0, 1152921504606846976], [1152921504606846976, 0]]) ⟨rfl, fun i hi => ?_, fun i v hi hv => ?_, fun i v hi hv => ?_⟩
  · rcases (show i = 0 ∨ i = 1 by omega) with rfl | rfl <;> rfl
  · rcases (show i = 0 ∨ i = 1 by omega) with rfl | rfl <;> rcases (show v = 0 ∨ v = 1 by omega) with rfl | rfl
    · exact d0 0
    · exact d1 0 1 (by omega)
    · exact d1 1 0 (by omega)
    · exact d0 1
  · rcases (show i = 0 ∨ i = 1 by omega) with rfl | rfl <;> rcases (show v = 0 ∨ v = 1 by omega) with rfl | rfl <;> decide
def potA (v : Nat) : Int := if v = 0 then 0 else if v = 1 then 7 else 8
def potB (v : Nat) : Int := if v = 0 then -2 else if v = 1 then 0 else 1
theorem exC_mem {x : P15.Ed} (h : x ∈ eds exC) : x = ⟨0, 1, 7⟩ ∨ x = ⟨1, 0, -2⟩ ∨ x = ⟨1, 2, 1⟩ ∨ x = ⟨0, 2, 9⟩ ∨ x = ⟨2, 0, 0⟩ := by simpa [eds, exC, ed] using h
theorem exC_potA : ∀ x ∈ eds exC, potA x.b ≤ potA x.a + x.w := fun x hx => by rcases exC_mem hx with rfl | rfl | rfl | rfl | rfl <;> decide
theorem exC_potB : ∀ x ∈ eds exC, potB x.b ≤ potB x.a + x.w := fun x hx => by rcases exC_mem hx with rfl | rfl | rfl | rfl | rfl <;> decide
theorem exC_w1 : P15.Walk (eds exC) 0 1 7 := P15.Walk.one (x := ⟨0, 1, 7⟩) (by simp [eds, exC, ed])
theorem exC_w2 : P15.Walk (eds exC) 1 2 1 := P15.Walk.one (x := ⟨1, 2, 1⟩) (by simp [eds, exC, ed])
theorem exC_w3 : P15.Walk (eds exC) 1 0 (-2) := P15.Walk.one (x := ⟨1, 0, -2⟩) (by simp [eds, exC, ed])
theorem exC_w4 : P15.Walk (eds exC) 2 0 0 := P15.Walk.one (x := ⟨2, 0, 0⟩) (by simp [eds, exC, ed])
theorem exC_v : vOk 3 exC = true := by decide +kernel
theorem exC_vals {t : List (List Int)} (h : DistT exC 3 t) : (T t 0 0 = 0 ∧ T t 0 1 = 7 ∧ T t 0 2 = 8) ∧ (T t 1 0 = -2 ∧ T t 1 1 = 0 ∧ T t 1 2 = 1) ∧ T t 2 0 ≠ 1152921504606846976 :=
  ⟨⟨(h.dist 0 0 (by omega) (by omega)).unique (isDist_pot exC_potA (u := 0) (v := 0) rfl (by decide) (.nil 0)), (h.dist 0 1 (by omega) (by omega)).unique (isDist_pot exC_potA (u := 0) (v := 1) rfl (by decide) exC_w1), (h.dist 0 2 (by omega) (by omega)).unique (isDist_pot exC_potA (u := 0) (v := 2) rfl (by decide) (exC_w1.trans exC_w2))⟩,
    ⟨(h.dist 1 0 (by omega) (by omega)).unique (isDist_pot exC_potB (u := 1) (v := 0) rfl (by decide) exC_w3), (h.dist 1 1 (by omega) (by omega)).unique (isDist_pot exC_potB (u := 1) (v := 1) rfl (by decide) (.nil 1)), (h.dist 1 2 (by omega) (by omega)).unique (isDist_pot exC_potB (u := 1) (v := 2) rfl (by decide) exC_w2)⟩,
    ((h.dist 2 0 (by omega) (by omega)).1 _ exC_w4).1⟩
theorem exC_some {t : List (List Int)} (h : DistT exC 3 t) : ∀ i, i < 3 → ¬ (T t 0 i = 1152921504606846976 ∨ T t i 0 = 1152921504606846976) := fun i hi => by
  obtain ⟨⟨a0, a1, a2⟩, ⟨b0, b1, b2⟩, c⟩ := exC_vals h
  rcases (show i = 0 ∨ i = 1 ∨ i = 2 by omega) with rfl | rfl | rfl <;> omega
theorem exC_4 {r : List Int} {e : Int} (h : SolP greatL 3 exC 1 4 r e) : e = 0 ∧ r = [0, 4, 5] := by
  obtain ⟨t, er, h1, h2, h3⟩ := h
  obtain ⟨rfl, hd⟩ := h1.is0 exC_v (P15.not_neg exC_potA)
  have hd : DistT exC 3 t := hd
  obtain ⟨⟨a0, a1, a2⟩, ⟨b0, b1, b2⟩, c⟩ := exC_vals hd
  have hs : solveE 3 t 1 4 = 0 := solve_0 (by omega) (exC_some hd) (by show ¬ (4 < -T t 1 0 ∨ T t 0 1 < 4); omega)
  have he : e = 0 := by rw [h2, solR, if_neg (by omega)]; exact hs
  refine ⟨he, ?_⟩
  rw [h3, if_pos he]
  show [min (T t 0 0) (4 + T t 1 0), min (T t 0 1) (4 + T t 1 1), min (T t 0 2) (4 + T t 1 2)] = _
  rw [a0, a1, a2, b0, b1, b2]; decide
theorem exC_8 {r : List Int} {e : Int} (h : SolP greatL 3 exC 1 8 r e) : e = 1 := by
  obtain ⟨t, er, h1, h2, h3⟩ := h
  obtain ⟨rfl, hd⟩ := h1.is0 exC_v (P15.not_neg exC_potA)
  have hd : DistT exC 3 t := hd
  obtain ⟨⟨a0, a1, a2⟩, ⟨b0, b1, b2⟩, c⟩ := exC_vals hd
  have hs : solveE 3 t 1 8 = 1 := solve_3 (by omega) (exC_some hd) (by show 8 < -T t 1 0 ∨ T t 0 1 < 8; omega)
  rw [h2, solR, if_neg (by omega)]; exact hs

end Go.Proofs.Ytjmdodgmoehfkaa
