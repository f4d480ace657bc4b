/- The cycle that is returned; the table of distances, row by row; lists turned around. No program in sight. -/
import Derived.Test.YtjmdodgmoehfkaaBndD
import Derived.Test.YtjmdodgmoehfkaaWk13
namespace Go.Proofs.Ytjmdodgmoehfkaa
open Go.RowKit

/-! turning a list around in place -/
section
variable {α : Type} {d : α}
def RevG (d : α) (l lk : List α) (i : Nat) : Prop := lk.length = l.length ∧ ∀ k, k < l.length → lk.getD k d = if k < i ∨ l.length - i ≤ k then l.getD (l.length - 1 - k) d else l.getD k d
theorem RevG.start (l : List α) : RevG d l l 0 := ⟨rfl, fun k hk => by rw [if_neg (by omega)]⟩
theorem getDG_set {l : List α} {i k : Nat} {x : α} (hi : i < l.length) : (l.set i x).getD k d = if i = k then x else l.getD k d := by
  rw [List.getD_eq_getElem?_getD, List.getD_eq_getElem?_getD, List.getElem?_set]
  by_cases h : i = k
  · subst h; simp [hi]
  · simp [h]
theorem RevG.step {l lk : List α} {i j : Nat} (h : RevG d l lk i) (hij : i < j) (hj : i + j + 1 = l.length) : RevG d l ((lk.set i (lk.getD j d)).set j (lk.getD i d)) (i + 1) := by
  obtain ⟨h1, h2⟩ := h
  refine ⟨by simp [h1], fun k hk => ?_⟩
  rw [getDG_set (by rw [List.length_set]; omega), getDG_set (by omega)]
  have ha := h2 i (by omega)
  have hb := h2 j (by omega)
  have hc := h2 k hk
  rw [if_neg (by omega)] at ha
  rw [if_neg (by omega)] at hb
  by_cases e1 : j = k
  · subst e1
    rw [if_pos rfl, if_pos (by omega), ha]
    congr 1; omega
  · rw [if_neg e1]
    by_cases e2 : i = k
    · subst e2
      rw [if_pos rfl, if_pos (by omega), hb]
      congr 1; omega
    · rw [if_neg e2, hc]
      by_cases e3 : k < i ∨ l.length - i ≤ k
      · rw [if_pos e3, if_pos (by omega)]
      · rw [if_neg e3, if_neg (by omega)]
theorem RevG.done {l lk : List α} {i : Nat} (h : RevG d l lk i) (hi : l.length ≤ 2 * i + 1) : lk = l.reverse := by
  obtain ⟨h1, h2⟩ := h
  apply List.ext_getElem (by simp [h1])
  intro k hk1 hk2
  have hk : k < l.length := by omega
  have h3 := h2 k hk
  rw [List.getElem_reverse]
  rw [List.getD_eq_getElem?_getD, List.getElem?_eq_getElem hk1, Option.getD_some] at h3
  rw [h3]
  split
  · rw [List.getD_eq_getElem?_getD, List.getElem?_eq_getElem (by omega), Option.getD_some]
  · rw [List.getD_eq_getElem?_getD, List.getElem?_eq_getElem hk, Option.getD_some]
    congr 1; omega
end

/-! cycles -/
def cedge (l : List E3) (c : List Int) (i : Nat) : E3 := l.getD (c.getD i 0).toNat default
/-- the edges with these indices are a cycle whose length is less than 0 -/
structure CycP (l : List E3) (c : List Int) : Prop where
  few : c.length ≤ 512
  ix : ∀ i, i < c.length → 0 ≤ c.getD i 0 ∧ c.getD i 0 < l.length
  link : ∀ i, i < c.length → (cedge l c i).b = (cedge l c ((i + 1) % c.length)).a
  apart : ∀ i k, k < i → i < c.length → (cedge l c k).a ≠ (cedge l c i).a
  pos : 0 < c.length
  neg : P15.total (fun i => (cedge l c i).w) c.length < 0
theorem total_bd {f : Nat → Int} {B : Int} : ∀ (k : Nat), (∀ i, i < k → -B ≤ f i ∧ f i ≤ B) → -(k * B) ≤ P15.total f k ∧ P15.total f k ≤ k * B
  | 0, _ => by simp [P15.total]
  | k + 1, h => by
    have ih := total_bd k fun i hi => h i (by omega)
    have h1 := h k (by omega)
    rw [P15.total, Int.natCast_add, Int.add_mul]
    simp only [Int.natCast_one, Int.one_mul]
    omega
/-- one step back, as it is read out of the lists -/
theorem back_read {nn : Nat} {l : List E3} (hv : vOk nn l = true) {D : List Int} {u : Nat} (_h0 : 0 ≤ D.getD u 0) (hd : (D.getD u 0).toNat < l.length) : (l.getD (D.getD u 0).toNat default).a = (P15.back (eds l) (en D) u : Int) := by
  have h1 := vOk_at hv hd
  rw [P15.back, P15.getD_of (eds_at (show en D u < l.length from hd))]
  simp only [ed, en]
  omega
/-- where a run went on to its end, the way back leads to a cycle -/
theorem Ran.cyc {G : (Nat → Int) → Prop} {l : List E3} {nn : Nat} {dflt : Int} {fo : Nat} {L0 L D : List Int} {last : Int} (h : Ran G l nn dflt fo L0 L D last) (hv : vOk nn l = true) (hl : ¬ last < 0) :
    ∃ v d : Nat, last = v ∧ (∀ k, k ≤ nn → P15.backN (eds l) (en D) k v < nn) ∧ (∀ k, k < nn → (D.getD (P15.backN (eds l) (en D) k v) 0).toNat < l.length) ∧ 0 < d ∧ d ≤ nn ∧ P15.backN (eds l) (en D) d (P15.backN (eds l) (en D) nn v) = P15.backN (eds l) (en D) nn v ∧
      (∀ j, 0 < j → j < d → P15.backN (eds l) (en D) j (P15.backN (eds l) (en D) nn v) ≠ P15.backN (eds l) (en D) nn v) ∧
      (∀ k, P15.backN (eds l) (en D) k (P15.backN (eds l) (en D) nn v) < nn ∧ (D.getD (P15.backN (eds l) (en D) k (P15.backN (eds l) (en D) nn v)) 0).toNat < l.length) ∧
      CycP l ((List.range d).map fun k => D.getD (P15.backN (eds l) (en D) k (P15.backN (eds l) (en D) nn v)) 0).reverse ∧ P15.Neg (eds l) := by
  obtain ⟨t, lv, s, r, h1, _, h3⟩ := h.inv
  rcases h3 with ⟨h3, _⟩ | ⟨v, h3, hvn, hr, hlv⟩
  · omega
  · have hdp := h.dpos
    subst hr
    have hE : ∀ x ∈ eds l, x.a < r ∧ x.b < r := fun x hx => (eds_ok hv hx).1
    obtain ⟨c1, c2, d0, c3, c4, c5, c6⟩ := h1.onCycle hE hvn hlv
    have inl : ∀ u, 0 < lv u → en D u < l.length := fun u hu => by
      obtain ⟨x, hx, _⟩ := h1.pre u hu
      have := (List.getElem?_eq_some_iff.1 hx).1
      rwa [eds_len] at this
    obtain ⟨u, hu⟩ : ∃ u, u = P15.backN (eds l) (en D) r v := ⟨_, rfl⟩
    rw [← hu] at c5 c6
    obtain ⟨d, e1, e2, e3, e4⟩ := P15.least (P := fun j => P15.backN (eds l) (en D) j u = u) d0 c3 c5
    have hb : ∀ k, P15.backN (eds l) (en D) k u < r := fun k => by
      obtain ⟨x, hx, hxb, _⟩ := h1.pre _ (c6 k)
      rw [← hxb]
      exact (hE x (List.mem_of_getElem? hx)).2
    have hlen : ((List.range d).map fun k => D.getD (P15.backN (eds l) (en D) k u) 0).reverse.length = d := by simp
    have hget : ∀ i, i < d → ((List.range d).map fun k => D.getD (P15.backN (eds l) (en D) k u) 0).reverse.getD i 0 = D.getD (P15.backN (eds l) (en D) (d - 1 - i) u) 0 := fun i hi => by
      rw [List.getD_eq_getElem?_getD, List.getElem?_reverse (by simpa using hi)]
      simp only [List.length_map, List.length_range]
      rw [List.getElem?_map, List.getElem?_range (by omega)]
      rfl
    have hce : ∀ i, i < d → (eds l)[en D (P15.backN (eds l) (en D) (d - 1 - i) u)]? = some (ed (cedge l ((List.range d).map fun k => D.getD (P15.backN (eds l) (en D) k u) 0).reverse i)) := fun i hi => by
      rw [eds_at (inl _ (c6 _)), cedge, hget i hi]; rfl
    have hok : ∀ i, i < d → (0 ≤ (cedge l ((List.range d).map fun k => D.getD (P15.backN (eds l) (en D) k u) 0).reverse i).a ∧ 0 ≤ (cedge l ((List.range d).map fun k => D.getD (P15.backN (eds l) (en D) k u) 0).reverse i).b) := fun i hi => by
      have := vOk_at hv (j := (D.getD (P15.backN (eds l) (en D) (d - 1 - i) u) 0).toNat) (inl _ (c6 _))
      rw [cedge, hget i hi]; omega
    have hd8 : d ≤ 512 := by have := vOk_n hv; omega
    subst hu
    refine ⟨v, d, h3, c1, fun k hk => inl _ (c2 k hk), e1, by omega, e3, e4, fun k => ⟨hb k, inl _ (c6 k)⟩, ?_, h1.neg hE hvn hlv⟩
    refine ⟨by rw [hlen]; exact hd8, fun i hi => ?_, fun i hi => ?_, fun i k hk hi => ?_, by rw [hlen]; exact e1, ?_⟩
    · rw [hlen] at hi
      rw [hget i hi]
      have h5 : (D.getD (P15.backN (eds l) (en D) (d - 1 - i) (P15.backN (eds l) (en D) r v)) 0).toNat < l.length := inl _ (c6 (d - 1 - i))
      have := hdp (P15.backN (eds l) (en D) (d - 1 - i) (P15.backN (eds l) (en D) r v))
      omega
    · rw [hlen] at hi ⊢
      have h5 := h1.linked e3 c6 hi (hce i hi) (hce _ (Nat.mod_lt _ e1))
      have h6 := hok i hi
      have h7 := hok _ (Nat.mod_lt (i + 1) e1)
      simp only [ed] at h5
      omega
    · rw [hlen] at hi
      have h5 := h1.begins e3 c6 e4 hk hi (hce i hi) (hce k (by omega))
      have h6 := hok i hi
      have h7 := hok k (by omega)
      simp only [ed] at h5
      omega
    · rw [hlen]
      have h5 := h1.sum e1 e3 c6
      refine Int.lt_of_le_of_lt (Int.le_of_eq (P15.total_congr fun i hi => ?_)) h5
      rw [P15.getD_of (hce i hi)]; rfl
theorem Ran.noneg {l : List E3} {nn : Nat} {dflt : Int} {fo : Nat} {L0 L D : List Int} {last : Int} (h : Ran P15.Low l nn dflt fo L0 L D last) (hl : last < 0) : ¬ P15.Neg (eds l) := by
  obtain ⟨t, lv, s, r, h1, _, h3⟩ := h.inv
  rcases h3 with ⟨_, h4⟩ | ⟨v, h3, _⟩
  · exact P15.Low.noneg h.g h4
  · omega
theorem keeps_low (E : List P15.Ed) : Keeps P15.Low E := fun _ _ _ _ hc _ g => P15.Low.relax g hc
theorem keeps_reach (E : List P15.Ed) (u : Nat) : Keeps (P15.Reach E u) E := fun _ _ hx hn hc hne g => P15.Reach.relax g hx hn hc hne
theorem fn_zero (nn : Nat) (v : Nat) : fn nn 0 0 (List.replicate nn 0) v = 0 := by
  simp only [fn, Nat.zero_add]
  split
  · rw [List.getD_eq_getElem?_getD, List.getElem?_replicate]; split <;> rfl
  · rfl
theorem rep_pos (nn j : Nat) : (0 : Int) ≤ (List.replicate nn 0).getD j 0 := by
  rw [List.getD_eq_getElem?_getD, List.getElem?_replicate]; split <;> simp

/-! the rows of the table, one behind the other -/
structure DT (l : List E3) (nn : Nat) (L : List Int) (k : Nat) : Prop where
  len : L.length = nn * nn
  dist : ∀ i v, i < k → v < nn → P15.IsDist (eds l) i v (L.getD (i * nn + v) 0) ∧ (L.getD (i * nn + v) 0 = 1152921504606846976 ∨ (-9007199254740992 ≤ L.getD (i * nn + v) 0 ∧ L.getD (i * nn + v) 0 ≤ 9007199254740992))
  rest : ∀ j, k * nn ≤ j → j < nn * nn → L.getD j 0 = 1152921504606846976
theorem DT.start (l : List E3) (nn : Nat) : DT l nn (List.replicate (nn * nn) 1152921504606846976) 0 where
  len := by simp
  dist := fun i v hi => by omega
  rest := fun j _ hj => by rw [List.getD_eq_getElem?_getD, List.getElem?_replicate, if_pos hj]; rfl
theorem row_fit {nn k : Nat} (hk : k < nn) : k * nn + nn ≤ nn * nn := by
  have := Nat.mul_le_mul_right nn (show k + 1 ≤ nn by omega)
  rw [Nat.add_mul, Nat.one_mul] at this; exact this
theorem DT.first {l : List E3} {nn : Nat} {L : List Int} {k : Nat} (h : DT l nn L k) (hk : k < nn) : ∀ v, fn nn P15.none_ (k * nn) (L.set (k * nn + k) 0) v = P15.first k v := by
  intro v
  have := row_fit hk
  have := h.len
  simp only [fn, P15.first]
  by_cases hv : v < nn
  · rw [if_pos hv, getDI_set (by omega)]
    by_cases hc : k = v
    · rw [if_pos (by omega), if_pos hc]
    · rw [if_neg (by omega), if_neg hc]
      exact h.rest _ (by omega) (by omega)
  · rw [if_neg hv, if_neg (by omega)]
theorem DT.h0 {l : List E3} {nn : Nat} {L : List Int} {k : Nat} (h : DT l nn L k) (hk : k < nn) : ∀ v, fn nn P15.none_ (k * nn) (L.set (k * nn + k) 0) v = P15.none_ ∨ fn nn P15.none_ (k * nn) (L.set (k * nn + k) 0) v = 0 := fun v => by
  rw [h.first hk v, P15.first]; split <;> simp
theorem DT.g0 {l : List E3} {nn : Nat} {L : List Int} {k : Nat} (h : DT l nn L k) (hk : k < nn) : P15.Reach (eds l) k (fn nn P15.none_ (k * nn) (L.set (k * nn + k) 0)) := by
  rw [show fn nn P15.none_ (k * nn) (L.set (k * nn + k) 0) = P15.first k from funext (h.first hk)]
  exact P15.Reach.start _ _
theorem DT.step {l : List E3} {nn : Nat} {L L' D : List Int} {k : Nat} {last : Int} (h : DT l nn L k) (hk : k < nn) (hv : vOk nn l = true) (hn : ¬ P15.Neg (eds l)) (hr : Ran (P15.Reach (eds l) k) l nn P15.none_ (k * nn) (L.set (k * nn + k) 0) L' D last) : DT l nn L' (k + 1) := by
  have hf := row_fit hk
  have hl := h.len
  obtain ⟨o1, o2⟩ := hr.off
  rw [List.length_set] at o1
  have hE : ∀ x ∈ eds l, x.a < nn ∧ x.b < nn := fun x hx => (eds_ok hv hx).1
  have far : ∀ j, j < nn * nn → ¬ (k * nn ≤ j ∧ j < k * nn + nn) → L'.getD j 0 = L.getD j 0 := fun j hj hc => by
    rw [o2 j hc, getDI_set (by omega), if_neg (by omega)]
  refine ⟨by omega, fun i v hi hvn => ?_, fun j hj hjn => ?_⟩
  · by_cases hc : i = k
    · subst hc
      obtain ⟨t, lv, s, r, h1, h2, h3⟩ := hr.inv
      rcases h3 with ⟨_, h4⟩ | ⟨u, _, hu, hr', hlu⟩
      · have h5 := hr.g.dist h1 (by simp only [P15.cap, P15.none_]; omega) (fun x hx => (eds_ok hv hx).2.2) h4 v
        have h6 := h1.bnd v
        rw [fn_lt hvn] at h5 h6
        refine ⟨h5, ?_⟩
        simp only [P15.none_, P15.cap] at h6
        omega
      · exact absurd (by subst hr'; exact h1.neg hE hu hlu) hn
    · have hi' : i < k := by omega
      have : i * nn + nn ≤ k * nn := by
        have := Nat.mul_le_mul_right nn (show i + 1 ≤ k by omega)
        rw [Nat.add_mul, Nat.one_mul] at this; exact this
      rw [far _ (by omega) (by omega)]
      exact h.dist i v hi' hvn
  · rw [Nat.add_mul, Nat.one_mul] at hj
    rw [far j hjn (by omega)]
    exact h.rest j (by omega) hjn
/-- a table of all distances of a system -/
structure DistT (l : List E3) (nn : Nat) (t : List (List Int)) : Prop where
  len : t.length = nn
  row : ∀ i, i < nn → (t.getD i []).length = nn
  dist : ∀ i v, i < nn → v < nn → P15.IsDist (eds l) i v ((t.getD i []).getD v 0)
  small : ∀ i v, i < nn → v < nn → (t.getD i []).getD v 0 = 1152921504606846976 ∨ (-9007199254740992 ≤ (t.getD i []).getD v 0 ∧ (t.getD i []).getD v 0 ≤ 9007199254740992)
def tabOf (nn : Nat) (L : List Int) : List (List Int) := (List.range nn).map fun i => (L.drop (i * nn)).take nn
theorem tabOf_row {nn : Nat} {L : List Int} {i : Nat} (h : i < nn) : (tabOf nn L).getD i [] = (L.drop (i * nn)).take nn := by
  rw [List.getD_eq_getElem?_getD, tabOf, List.getElem?_map, List.getElem?_range h]; rfl
theorem DT.tab {l : List E3} {nn : Nat} {L : List Int} (h : DT l nn L nn) : DistT l nn (tabOf nn L) := by
  have cellE : ∀ i v, i < nn → v < nn → ((tabOf nn L).getD i []).getD v 0 = L.getD (i * nn + v) 0 := fun i v hi hv => by
    rw [tabOf_row hi, List.getD_eq_getElem?_getD, List.getElem?_take, if_pos hv, List.getElem?_drop, ← List.getD_eq_getElem?_getD]
  refine ⟨by simp [tabOf], fun i hi => ?_, fun i v hi hv => ?_, fun i v hi hv => ?_⟩
  · have := row_fit hi
    have := h.len
    rw [tabOf_row hi, List.length_take, List.length_drop]; omega
  · rw [cellE i v hi hv]; exact (h.dist i v hi hv).1
  · rw [cellE i v hi hv]; exact (h.dist i v hi hv).2
theorem DistT.unique {l : List E3} {nn : Nat} {t t' : List (List Int)} (h : DistT l nn t) (k : DistT l nn t') : t = t' := by
  apply List.ext_getElem (by rw [h.len, k.len])
  intro i h1 h2
  have hi : i < nn := by rw [← h.len]; exact h1
  have e1 : t[i] = t.getD i [] := by rw [List.getD_eq_getElem?_getD, List.getElem?_eq_getElem h1, Option.getD_some]
  have e2 : t'[i] = t'.getD i [] := by rw [List.getD_eq_getElem?_getD, List.getElem?_eq_getElem h2, Option.getD_some]
  rw [e1, e2]
  apply List.ext_getElem (by rw [h.row i hi, k.row i hi])
  intro v g1 g2
  have hv : v < nn := by rw [← h.row i hi]; exact g1
  have := (h.dist i v hi hv).unique (k.dist i v hi hv)
  have f1 : (t.getD i []).getD v 0 = (t.getD i [])[v] := by rw [List.getD_eq_getElem?_getD (l := t.getD i []), List.getElem?_eq_getElem g1, Option.getD_some]
  have f2 : (t'.getD i []).getD v 0 = (t'.getD i [])[v] := by rw [List.getD_eq_getElem?_getD (l := t'.getD i []), List.getElem?_eq_getElem g2, Option.getD_some]
  rw [← f1, ← f2]
  exact this

/-! the rows as slices of one block -/
def rowsV (g nn k : Nat) : List Value := (List.range k).map fun i => Value.slice (some ⟨g, i * nn, none⟩) nn nn
theorem rowsV_step (g nn k : Nat) : rowsV g nn k ++ [Value.slice (some ⟨g, k * nn, none⟩) nn nn] = rowsV g nn (k + 1) := by rw [rowsV, rowsV, List.range_succ, List.map_append]; rfl
theorem rowsV_one (g nn k : Nat) : ∀ u ∈ rowsV g nn k, u.oneCell' = true := one_slices fun u hu => by
  obtain ⟨i, _, rfl⟩ := List.mem_map.1 hu; exact ⟨_, _, _, rfl⟩
theorem rows_read {S : Nat → Prop} {w : World} {g nn : Nat} {t : TypeId} {L : List Int} (hb : Blk w g t (intVals L)) (hl : L.length = nn * nn) (h2 : nn ≤ 512) (hS : S g) : ∀ i, i < nn → ∃ u, (rowsV g nn nn)[i]? = some u ∧ Fl S w 1 u ((tabOf nn L).getD i []).length (intVals ((tabOf nn L).getD i [])) := fun i hi => by
  have hf := row_fit hi
  refine ⟨.slice (some ⟨g, i * nn, none⟩) nn nn, by rw [rowsV, List.getElem?_map, List.getElem?_range hi]; rfl, ?_⟩
  rw [tabOf_row hi]
  have e : ((L.drop (i * nn)).take nn).length = nn := by rw [List.length_take, List.length_drop]; omega
  rw [e]
  exact Fl.mid hb (by omega) ⟨Nat.le_refl _, by omega⟩ hS

end Go.Proofs.Ytjmdodgmoehfkaa
