/- The reference's table: rows in blocks of their own; its phases as they are written. -/
import Derived.Test.YtjmdodgmoehfkaaBndJ
namespace Go.Proofs.Ytjmdodgmoehfkaa
open Go.RowKit

variable {S S' : Nat → Prop}
/-! rows of a table, each in a block of its own; they lie between gt and hi, one behind the other -/
structure Tb (w : World) (gt hi : Nat) (ti : TypeId) (rs : List Nat) (t : List (List Int)) : Prop where
  len : t.length = rs.length
  row : ∀ i, i < rs.length → Blk w (rs.getD i 0) ti (intVals (t.getD i []))
  lo : ∀ i, i < rs.length → gt < rs.getD i 0
  up : ∀ i, i < rs.length → rs.getD i 0 < hi
  inc : ∀ i j, i < j → j < rs.length → rs.getD i 0 < rs.getD j 0
theorem Tb.ext {w w' : World} {gt hi : Nat} {ti : TypeId} {rs : List Nat} {t : List (List Int)} (h : Tb w gt hi ti rs t) (he : Ext w w') : Tb w' gt hi ti rs t :=
  { h with row := fun i hi' => (h.row i hi').ext he }
theorem Tb.far {w w' : World} {gt hi : Nat} {ti : TypeId} {rs : List Nat} {t : List (List Int)} {n : Nat} (h : Tb w gt hi ti rs t) (hg : w.grownBy w' (some n)) (hn : n ≤ gt ∨ hi ≤ n) : Tb w' gt hi ti rs t :=
  { h with row := fun i hi' => (h.row i hi').grownN hg (by have := h.lo i hi'; have := h.up i hi'; omega) }
theorem getDN_set {α : Type} {l : List α} {i k : Nat} {x d : α} (hi : i < l.length) : (l.set i x).getD k d = if k = i then x else l.getD k d := by
  by_cases h : k = i
  · subst h; simp [List.getD_eq_getElem?_getD, hi]
  · have : i ≠ k := fun e => h e.symm
    simp [List.getD_eq_getElem?_getD, List.getElem?_set_ne this, h]
theorem Tb.set {w w' : World} {gt hi : Nat} {ti : TypeId} {rs : List Nat} {t : List (List Int)} {i : Nat} {r : List Int} (h : Tb w gt hi ti rs t) (hi' : i < rs.length) (hb : Blk w' (rs.getD i 0) ti (intVals r)) (hg : w.grownBy w' (some (rs.getD i 0))) : Tb w' gt hi ti rs (t.set i r) := by
  refine ⟨by rw [List.length_set]; exact h.len, fun k hk => ?_, h.lo, h.up, h.inc⟩
  rw [getDN_set (by rw [h.len]; exact hi')]
  by_cases hc : k = i
  · subst hc; rw [if_pos rfl]; exact hb
  · rw [if_neg hc]
    refine (h.row k hk).grownN hg ?_
    rcases Nat.lt_or_gt_of_ne hc with h1 | h1
    · have := h.inc k i h1 hi'; omega
    · have := h.inc i k h1 hk; omega
theorem Tb.nil (w : World) (gt : Nat) (ti : TypeId) : Tb w gt (gt + 1) ti [] [] := ⟨rfl, fun i hi => by simp at hi, fun i hi => by simp at hi, fun i hi => by simp at hi, fun i j _ hj => by simp at hj⟩
theorem getD_snoc {α : Type} {l : List α} {x d : α} {i : Nat} : (l ++ [x]).getD i d = if i < l.length then l.getD i d else if i = l.length then x else d := by
  simp only [List.getD_eq_getElem?_getD]
  by_cases h : i < l.length
  · rw [if_pos h, List.getElem?_append_left h]
  · rw [if_neg h, List.getElem?_append_right (by omega)]
    by_cases h2 : i = l.length
    · subst h2; simp
    · rw [if_neg h2, List.getElem?_eq_none (by simp; omega)]; rfl
theorem Tb.push {w : World} {gt hi hi' : Nat} {ti : TypeId} {rs : List Nat} {t : List (List Int)} {r : Nat} {l : List Int} (h : Tb w gt hi ti rs t) (hb : Blk w r ti (intVals l)) (h1 : hi ≤ r) (h2 : r < hi') (h3 : gt < r) : Tb w gt hi' ti (rs ++ [r]) (t ++ [l]) := by
  refine ⟨by simp [h.len], fun i hi => ?_, fun i hi => ?_, fun i hi => ?_, fun i j hij hj => ?_⟩
  · simp at hi
    rw [getD_snoc, getD_snoc, h.len]
    by_cases hc : i < rs.length
    · rw [if_pos hc, if_pos hc]; exact h.row i hc
    · rw [if_neg hc, if_neg hc, if_pos (by omega), if_pos (by omega)]; exact hb
  · simp at hi
    rw [getD_snoc]
    by_cases hc : i < rs.length
    · rw [if_pos hc]; exact h.lo i hc
    · rw [if_neg hc, if_pos (by omega)]; exact h3
  · simp at hi
    rw [getD_snoc]
    by_cases hc : i < rs.length
    · rw [if_pos hc]; have := h.up i hc; omega
    · rw [if_neg hc, if_pos (by omega)]; exact h2
  · simp at hj
    rw [getD_snoc, getD_snoc, if_pos (by omega)]
    by_cases hc : j < rs.length
    · rw [if_pos hc]; exact h.inc i j hij hc
    · rw [if_neg hc, if_pos (by omega)]; have := h.up i (by omega); omega
theorem Tb.cell {w : World} {gt hi : Nat} {ti : TypeId} {rs : List Nat} {t : List (List Int)} (h : Tb w gt hi ti rs t) {i k o : Nat} (hi' : i < rs.length) (hk : k < (t.getD i []).length) (ho : o = k) : w.cell? ⟨rs.getD i 0, o, none⟩ = some (.int .i64 ((t.getD i []).getD k 0)) :=
  blk_intVals (h.row i hi') ho hk
/-- the slices that the table's block holds; behind them are nil ones -/
def rowsU (nn : Nat) (rs : List Nat) : List Value := rs.map (fun r => Value.slice (some ⟨r, 0, none⟩) nn nn) ++ List.replicate (nn - rs.length) (.slice none 0 0)
theorem rowsU_len {nn : Nat} {rs : List Nat} (h : rs.length ≤ nn) : (rowsU nn rs).length = nn := by simp [rowsU]; omega
theorem rowsU_at {nn : Nat} {rs : List Nat} {i : Nat} (h : i < rs.length) : (rowsU nn rs)[i]? = some (.slice (some ⟨rs.getD i 0, 0, none⟩) nn nn) := by
  rw [rowsU, List.getElem?_append_left (by simpa using h), List.getElem?_map, List.getElem?_eq_getElem h, List.getD_eq_getElem?_getD, List.getElem?_eq_getElem h]; rfl
theorem rowsU_set {nn : Nat} {rs : List Nat} {r k : Nat} (hk : k = rs.length) (h : rs.length < nn) : (rowsU nn rs).set k (.slice (some ⟨r, 0, none⟩) nn nn) = rowsU nn (rs ++ [r]) := by
  subst hk
  rw [rowsU, rowsU, List.set_append_right _ _ (by simp), List.map_append, List.append_assoc]
  congr 1
  simp only [List.length_map, Nat.sub_self, List.length_append, List.length_cons, List.length_nil]
  rw [show nn - rs.length = (nn - (rs.length + 1)) + 1 by omega, List.replicate_succ]
  rfl
theorem rowsU_one (nn : Nat) (rs : List Nat) : ∀ u ∈ rowsU nn rs, u.oneCell' = true := one_slices fun u hu => by
  rcases List.mem_append.1 hu with h | h
  · obtain ⟨r, _, rfl⟩ := List.mem_map.1 h; exact ⟨_, _, _, rfl⟩
  · rw [List.eq_of_mem_replicate h]; exact ⟨_, _, _, rfl⟩
theorem blk_rowsU {w : World} {g nn : Nat} {ti : TypeId} {rs : List Nat} (h : Blk w g ti (rawVals (rowsU nn rs))) {i o : Nat} (ho : o = i) (hi : i < rs.length) : w.cell? ⟨g, o, none⟩ = some (.slice (some ⟨rs.getD i 0, 0, none⟩) nn nn) := by
  subst ho; rw [h.rule.1]; exact rowsU_at hi
theorem Tb.riss {w : World} {gt hi nn : Nat} {ti tt : TypeId} {rs : List Nat} {t : List (List Int)} (h : Tb w gt hi ti rs t) (hg : Blk w gt tt (rawVals (rowsU nn rs))) (hn : rs.length = nn) (hr : ∀ i, i < nn → (t.getD i []).length = nn) (hm : nn ≤ 512) (hS : ∀ b, gt ≤ b → S b) : RIss S w (.slice (some ⟨gt, 0, none⟩) nn nn) t := by
  refine RIss.of_fl (Fl.blk hg (by rw [rowsU_len (by omega), Nat.mul_one]) (rowsU_one nn rs) ⟨Nat.le_refl _, by omega⟩ (hS gt (Nat.le_refl _))) (by rw [h.len, hn]) fun i hi => ?_
  refine ⟨_, rowsU_at (by omega), ?_⟩
  rw [hr i hi]
  exact Fl.blk (h.row i (by omega)) (by rw [intVals_len (hr i hi), Nat.mul_one]) (intVals_one _) ⟨Nat.le_refl _, by omega⟩ (hS _ (by have := h.lo i (by omega); omega))

/-! the table as a function -/
structure Sq (nn : Nat) (t : List (List Int)) : Prop where
  len : t.length = nn
  row : ∀ i, i < nn → (t.getD i []).length = nn
theorem Sq.set {nn : Nat} {t : List (List Int)} (h : Sq nn t) (a b : Nat) (x : Int) (ha : a < nn) : Sq nn (t.set a ((t.getD a []).set b x)) := by
  refine ⟨by rw [List.length_set]; exact h.len, fun i hi => ?_⟩
  rw [getDN_set (by rw [h.len]; exact ha)]
  split
  · rw [List.length_set]; exact h.row a ha
  · exact h.row i hi
def fT (nn : Nat) (t : List (List Int)) (i k : Nat) : Int := if i < nn ∧ k < nn then T t i k else P15.first i k
theorem fT_in {nn : Nat} {t : List (List Int)} {i k : Nat} (hi : i < nn) (hk : k < nn) : fT nn t i k = (t.getD i []).getD k 0 := by rw [fT, if_pos ⟨hi, hk⟩]; rfl
theorem fT_set {nn : Nat} {t : List (List Int)} (h : Sq nn t) {a b : Nat} (ha : a < nn) (hb : b < nn) (x : Int) : fT nn (t.set a ((t.getD a []).set b x)) = P15.put (fT nn t) a b x := by
  funext i k
  unfold fT P15.put
  by_cases hc : i < nn ∧ k < nn
  · rw [if_pos hc]
    unfold T
    rw [getDN_set (by rw [h.len]; exact ha)]
    by_cases h1 : i = a
    · subst h1
      rw [if_pos rfl, getDN_set (by rw [h.row i ha]; exact hb)]
      by_cases h2 : k = b
      · rw [if_pos h2, if_pos ⟨rfl, h2⟩]
      · rw [if_neg h2, if_neg (fun h => h2 h.2)]; show _ = if _ then _ else _; rw [if_pos hc]
    · rw [if_neg h1, if_neg (fun h => h1 h.1)]; show _ = if _ then _ else _; rw [if_pos hc]
  · rw [if_neg hc, if_neg (by omega)]; show _ = if _ then _ else _; rw [if_neg hc]
/-- the first table, row by row -/
def firstT (nn k : Nat) : List (List Int) := (List.range k).map fun i => (List.replicate nn 1152921504606846976).set i 0
theorem firstT_step (nn k : Nat) : firstT nn k ++ [(List.replicate nn 1152921504606846976).set k 0] = firstT nn (k + 1) := by rw [firstT, firstT, List.range_succ, List.map_append]; rfl
theorem firstT_row {nn k i : Nat} (h : i < k) : (firstT nn k).getD i [] = (List.replicate nn 1152921504606846976).set i 0 := by
  rw [List.getD_eq_getElem?_getD, firstT, List.getElem?_map, List.getElem?_range h]; rfl
theorem firstT_sq (nn : Nat) : Sq nn (firstT nn nn) := ⟨by simp [firstT], fun i hi => by rw [firstT_row hi, List.length_set, List.length_replicate]⟩
theorem firstT_fT (nn : Nat) : fT nn (firstT nn nn) = P15.first := by
  funext i k
  unfold fT
  split
  · rename_i h
    unfold T P15.first
    rw [firstT_row h.1, getDN_set (by rw [List.length_replicate]; exact h.1)]
    by_cases hc : i = k
    · rw [if_pos hc.symm, if_pos hc]
    · rw [if_neg (fun e => hc e.symm), if_neg hc, List.getD_eq_getElem?_getD, List.getElem?_replicate, if_pos h.2]; rfl
  · rfl
/-- the edges before q are in the table -/
structure EdT (l : List E3) (nn : Nat) (t : List (List Int)) (q : Nat) : Prop where
  sq : Sq nn t
  e : P15.Edges (eds l) nn (fT nn t)
  le : ∀ j, j < q → fT nn t (l.getD j default).a.toNat (l.getD j default).b.toNat ≤ (l.getD j default).w
theorem EdT.start (l : List E3) (nn : Nat) : EdT l nn (firstT nn nn) 0 := ⟨firstT_sq nn, by rw [firstT_fT]; exact P15.Edges.start _ _, fun j hj => by omega⟩
theorem EdT.step {l : List E3} {nn : Nat} {t : List (List Int)} {q : Nat} (h : EdT l nn t q) (hv : vOk nn l = true) (hq : q < l.length) :
    EdT l nn (t.set (l.getD q default).a.toNat ((t.getD (l.getD q default).a.toNat []).set (l.getD q default).b.toNat (min ((t.getD (l.getD q default).a.toNat []).getD (l.getD q default).b.toNat 0) (l.getD q default).w))) (q + 1) := by
  have ho := vOk_at hv hq
  have ha : (l.getD q default).a.toNat < nn := by omega
  have hb : (l.getD q default).b.toNat < nn := by omega
  have hm : ed (l.getD q default) ∈ eds l := List.mem_of_getElem? (eds_at hq)
  have e1 := h.e.step hm (eds_ok hv hm).2
  simp only [ed] at e1
  refine ⟨h.sq.set _ _ _ ha, ?_, fun j hj => ?_⟩
  · rw [fT_set h.sq ha hb, ← fT_in ha hb]; exact e1
  · rw [fT_set h.sq ha hb, ← fT_in ha hb]
    by_cases hc : (l.getD j default).a.toNat = (l.getD q default).a.toNat ∧ (l.getD j default).b.toNat = (l.getD q default).b.toNat
    · rw [hc.1, hc.2, P15.put_same]
      by_cases hjq : j = q
      · subst hjq; omega
      · have := h.le j (by omega); rw [hc.1, hc.2] at this; omega
    · rw [P15.put_ne _ _ hc]
      by_cases hjq : j = q
      · subst hjq; exact absurd ⟨rfl, rfl⟩ hc
      · exact h.le j (by omega)
/-- before phase m -/
structure FwT (l : List E3) (nn : Nat) (t : List (List Int)) (m : Nat) : Prop where
  sq : Sq nn t
  fw : P15.FW (eds l) nn m (P15.cap * 2 ^ m) (fT nn t)
  diag : m = 0 ∨ ∀ v, v < nn → 0 ≤ fT nn t v v
theorem EdT.fw {l : List E3} {nn : Nat} {t : List (List Int)} {q : Nat} (h : EdT l nn t q) (hv : vOk nn l = true) (hq : q = l.length) : FwT l nn t 0 := by
  refine ⟨h.sq, ?_, .inl rfl⟩
  rw [Int.pow_zero, Int.mul_one]
  exact h.e.fw (fun x hx => by obtain ⟨i, hi, rfl⟩ := eds_mem hx; exact h.le i (by omega)) (fun x hx => (eds_ok hv hx).2.2)
theorem beta {m : Nat} (h : m ≤ 8) : 0 ≤ P15.cap * 2 ^ m ∧ P15.cap * 2 ^ m ≤ 9007199254740992 ∧ P15.cap * 2 ^ (m + 1) = 2 * (P15.cap * 2 ^ m) := by
  have h1 : (2 : Int) ^ (m + 1) = 2 * 2 ^ m := by rw [Int.pow_succ, Int.mul_comm]
  have h2 : m = 0 ∨ m = 1 ∨ m = 2 ∨ m = 3 ∨ m = 4 ∨ m = 5 ∨ m = 6 ∨ m = 7 ∨ m = 8 := by omega
  refine ⟨?_, ?_, by rw [h1]; simp only [P15.cap]; omega⟩ <;> (rcases h2 with rfl | rfl | rfl | rfl | rfl | rfl | rfl | rfl | rfl <;> decide)
/-- within phase m -/
structure PhT (l : List E3) (nn : Nat) (t0 t : List (List Int)) (m i k : Nat) : Prop where
  sq : Sq nn t
  ph : P15.Ph (eds l) nn m (P15.cap * 2 ^ m) (fT nn t0) (fT nn t) i k
theorem FwT.start {l : List E3} {nn : Nat} {t : List (List Int)} {m : Nat} (h : FwT l nn t m) (hm : m < nn) (h8 : nn ≤ 8) : PhT l nn t t m 0 0 := ⟨h.sq, P15.Ph.start h.fw (beta (by omega)).1 hm⟩
theorem PhT.row {l : List E3} {nn : Nat} {t0 t : List (List Int)} {m i : Nat} (h : PhT l nn t0 t m i nn) : PhT l nn t0 t m (i + 1) 0 := ⟨h.sq, h.ph.row⟩
theorem PhT.sums {l : List E3} {nn : Nat} {t0 t : List (List Int)} {m i k : Nat} (h : PhT l nn t0 t m i k) (hm : m < nn) (h8 : nn ≤ 8) (hi : i < nn) (hk : k < nn) :
    ((t.getD i []).getD m 0 = 1152921504606846976 ∨ (-27021597764222976 ≤ (t.getD i []).getD m 0 ∧ (t.getD i []).getD m 0 ≤ 9007199254740992)) ∧ ((t.getD m []).getD k 0 = 1152921504606846976 ∨ (-27021597764222976 ≤ (t.getD m []).getD k 0 ∧ (t.getD m []).getD k 0 ≤ 9007199254740992)) := by
  have h1 := h.ph.bcol i hi
  have h2 := h.ph.brow k hk
  rw [fT_in hi hm] at h1
  rw [fT_in hm hk] at h2
  obtain ⟨b1, b2, _⟩ := beta (show m ≤ 8 by omega)
  simp only [P15.none_] at h1 h2
  generalize P15.cap * 2 ^ m = β at *
  omega
theorem PhT.step {l : List E3} {nn : Nat} {t0 t : List (List Int)} {m i k : Nat} (h0 : FwT l nn t0 m) (h : PhT l nn t0 t m i k) (hm : m < nn) (h8 : nn ≤ 8) (hi : i < nn) (hk : k < nn)
    (h1 : (t.getD i []).getD m 0 ≠ 1152921504606846976) (h2 : (t.getD m []).getD k 0 ≠ 1152921504606846976) :
    PhT l nn t0 (t.set i ((t.getD i []).set k (min ((t.getD i []).getD k 0) ((t.getD i []).getD m 0 + (t.getD m []).getD k 0)))) m i (k + 1) := by
  obtain ⟨b1, b2, _⟩ := beta (show m ≤ 8 by omega)
  refine ⟨h.sq.set _ _ _ hi, ?_⟩
  rw [fT_set h.sq hi hk]
  have := h.ph.step h0.fw b1 (by simp only [P15.none_]; omega) hm hi hk
  rw [P15.cell, if_pos ⟨by rw [fT_in hi hm]; exact h1, by rw [fT_in hm hk]; exact h2⟩, fT_in hi hk, fT_in hi hm, fT_in hm hk] at this
  exact this
theorem P15put_same (D : Nat → Nat → Int) (i k : Nat) : P15.put D i k (D i k) = D := by
  funext a b; unfold P15.put; split
  · rename_i h; rw [h.1, h.2]
  · rfl
theorem PhT.skip {l : List E3} {nn : Nat} {t0 t : List (List Int)} {m i k : Nat} (h0 : FwT l nn t0 m) (h : PhT l nn t0 t m i k) (hm : m < nn) (h8 : nn ≤ 8) (hi : i < nn) (hk : k < nn)
    (h1 : (t.getD i []).getD m 0 = 1152921504606846976 ∨ (t.getD m []).getD k 0 = 1152921504606846976) : PhT l nn t0 t m i (k + 1) := by
  obtain ⟨b1, b2, _⟩ := beta (show m ≤ 8 by omega)
  have := h.ph.step h0.fw b1 (by simp only [P15.none_]; omega) hm hi hk
  rw [P15.cell, if_neg (fun h2 => by rw [fT_in hi hm, fT_in hm hk] at h2; simp only [P15.none_] at h2; omega), P15put_same] at this
  exact ⟨h.sq, this⟩
theorem PhT.neg {l : List E3} {nn : Nat} {t0 t : List (List Int)} {m i k v : Nat} (h : PhT l nn t0 t m i k) (hv : v < nn) (h1 : (t.getD v []).getD v 0 < 0) : P15.Neg (eds l) := h.ph.neg (v := v) (by rw [fT_in hv hv]; exact h1)
theorem PhT.close {l : List E3} {nn : Nat} {t0 t : List (List Int)} {m : Nat} (h0 : FwT l nn t0 m) (h : PhT l nn t0 t m nn 0) (hm : m < nn) (h8 : nn ≤ 8) (hd : ∀ v, v < nn → 0 ≤ (t.getD v []).getD v 0) : FwT l nn t (m + 1) := by
  obtain ⟨b1, b2, b3⟩ := beta (show m ≤ 8 by omega)
  have hdd : ∀ v, v < nn → 0 ≤ fT nn t v v := fun v hv => by rw [fT_in hv hv]; exact hd v hv
  have hp : 0 ≤ fT nn t0 m m := Int.not_lt.1 fun hlt => by have := h.ph.stays hlt; have := hdd m hm; omega
  refine ⟨h.sq, ?_, .inr hdd⟩
  rw [b3]
  exact h.ph.close h0.fw (by simp only [P15.none_]; omega) b1 hm hp
theorem FwT.done {l : List E3} {nn : Nat} {t : List (List Int)} {m : Nat} (h : FwT l nn t m) (hm : m = nn) (h0 : 0 < nn) (h8 : nn ≤ 8) (hv : vOk nn l = true) : ¬ P15.Neg (eds l) ∧ DistT l nn t := by
  subst hm
  have hE : ∀ x ∈ eds l, x.a < m ∧ x.b < m := fun x hx => (eds_ok hv hx).1
  obtain ⟨b1, b2, _⟩ := beta h8
  refine ⟨h.fw.noneg hE (h.diag.resolve_left (by omega)), h.sq.len, h.sq.row, fun i v hi hv' => ?_, fun i v hi hv' => ?_⟩
  · rw [← fT_in hi hv']; exact h.fw.dist hE hi hv'
  · rw [← fT_in hi hv']
    have := h.fw.bnd i v hi hv'
    simp only [P15.none_] at this
    generalize P15.cap * 2 ^ m = β at *
    omega

end Go.Proofs.Ytjmdodgmoehfkaa
