/- What the laws of chapter 15 say, plain. -/
import Derived.Test.YtjmdodgmoehfkaaBndJ
import Derived.Test.YtjmdodgmoehfkaaAndI
namespace Go.Proofs.Ytjmdodgmoehfkaa
open Go.RowKit

variable {S S' : Nat → Prop}
theorem RIss.two {w : World} {g : Nat} {t : TypeId} {v1 v2 : Value} {l1 l2 : List Int} {n1 n2 : Nat} {S1 S2 : Nat → Prop} (h : Blk w g t [v1, v2]) (h1 : Fl S1 w 1 v1 n1 (intVals l1)) (h2 : Fl S2 w 1 v2 n2 (intVals l2)) : RIss (fun _ => True) w (.slice (some ⟨g, 0, none⟩) 2 2) [l1, l2] := by
  have e1 := Fl.ilen h1
  have e2 := Fl.ilen h2
  subst e1 e2
  have o : ∀ {S : Nat → Prop} {v : Value} {l : List Int}, Fl S w 1 v l.length (intVals l) → v.oneCell' = true := fun h => by obtain ⟨A, c, rfl, _⟩ := h.form; rfl
  refine RIss.of_fl (Fl.blk h rfl (by simp [o h1, o h2]) ⟨Nat.le_refl _, by omega⟩ trivial) rfl fun i hi => ?_
  match i, hi with
  | 0, _ => exact ⟨_, rfl, h1.sub fun _ _ => trivial⟩
  | 1, _ => exact ⟨_, rfl, h2.sub fun _ _ => trivial⟩
theorem SysP.v151 {n : Int} {l : List E3} {t : List (List Int)} {er : Int} (h : SysP n l t er) (h0 : er = 151) : vOk n l = true ∧ P15.Neg (eds l) ∧ t = [] := by
  rcases h with ⟨h1, _⟩ | ⟨_, h2, h3, h4⟩ | ⟨h1, _⟩
  · omega
  · exact ⟨h2, h3, h4⟩
  · omega
theorem FarP.cyc0 {n : Int} {l : List E3} {t : List (List Int)} {c : List Int} {er : Int} (h : FarP n l t c er) (h0 : er ≠ 151) : c = [] := by
  rcases h.2 with ⟨h1, _⟩ | ⟨_, h2⟩
  · exact absurd h1 h0
  · exact h2
theorem FarP.cycP {n : Int} {l : List E3} {t : List (List Int)} {c : List Int} {er : Int} (h : FarP n l t c er) (h0 : er = 151) : CycP l c := by
  rcases h.2 with ⟨_, h1⟩ | ⟨h1, _⟩
  · exact h1
  · exact absurd h0 h1
/-- an edge and its table -/
theorem DistT.edge {n : Int} {l : List E3} {t : List (List Int)} (h : DistT l n.toNat t) (hv : vOk n l = true) {k : Nat} (hk : k < l.length) : (t.getD (l.getD k default).a.toNat []).getD (l.getD k default).b.toNat 0 ≤ (l.getD k default).w := by
  have ho := vOk_at hv hk
  have hm : ed (l.getD k default) ∈ eds l := List.mem_of_getElem? (eds_at hk)
  have h1 := h.dist (l.getD k default).a.toNat (l.getD k default).b.toNat (by omega) (by omega)
  exact (P15.IsDist.edge (x := ed (l.getD k default)) h1 hm).2
theorem DistT.tri {l : List E3} {nn : Nat} {t : List (List Int)} (h : DistT l nn t) {i m k : Nat} (hi : i < nn) (hm : m < nn) (hk : k < nn) (h1 : (t.getD i []).getD m 0 < 1152921504606846976) (h2 : (t.getD m []).getD k 0 < 1152921504606846976) : (t.getD i []).getD k 0 ≤ (t.getD i []).getD m 0 + (t.getD m []).getD k 0 :=
  ((h.dist i m hi hm).tri (h.dist m k hm hk) (h.dist i k hi hk) (by simp only [P15.none_]; omega) (by simp only [P15.none_]; omega)).2
theorem DistT.self {l : List E3} {nn : Nat} {t : List (List Int)} (h : DistT l nn t) (hn : ¬ P15.Neg (eds l)) {i : Nat} (hi : i < nn) : (t.getD i []).getD i 0 = 0 := (h.dist i i hi hi).self hn
/-! a further edge -/
theorem eds_snoc (l : List E3) (x : E3) : eds (l ++ [x]) = eds l ++ [ed x] := by simp [eds]
theorem vOk_snoc {n : Int} {l : List E3} {x : E3} (h : vOk n (l ++ [x]) = true) : vOk n l = true ∧ ((0 ≤ x.a ∧ x.a < n) ∧ (0 ≤ x.b ∧ x.b < n) ∧ -35184372088832 ≤ x.w ∧ x.w ≤ 35184372088832) := by
  simp only [vOk, Bool.and_eq_true, List.all_append, List.all_cons, List.all_nil, Bool.and_true, decide_eq_true_eq, List.length_append, List.length_cons, List.length_nil] at h ⊢
  exact ⟨⟨by omega, h.2.1⟩, okE_iff.1 h.2.2⟩
theorem more_neg {n : Int} {l : List E3} {x : E3} {t t' : List (List Int)} {er er' : Int} (h : SysP n l t er) (k : SysP n (l ++ [x]) t' er') (hv : vOk n (l ++ [x]) = true) (h0 : er ≠ 0) : er = 151 ∧ er' = 151 := by
  have hv' := (vOk_snoc hv).1
  have h1 : er = 151 := (h.not h0).2.resolve_left fun h150 => by
    rcases h with ⟨_, h2, _⟩ | ⟨h2, _⟩ | ⟨h2, _⟩
    · rw [hv'] at h2; cases h2
    · omega
    · omega
  refine ⟨h1, k.neg151 hv ?_⟩
  rw [eds_snoc]
  exact (h.v151 h1).2.1.more fun y hy => List.mem_append.2 (.inl hy)
theorem DistT.at {l : List E3} {n : Int} {t : List (List Int)} (h : DistT l n.toNat t) {a b : Int} (ha : 0 ≤ a ∧ a < n) (hb : 0 ≤ b ∧ b < n) : P15.IsDist (eds l) a.toNat b.toNat ((t.getD a.toNat []).getD b.toNat 0) := h.dist _ _ (by omega) (by omega)
theorem more_idle {n : Int} {l : List E3} {x : E3} {t t' : List (List Int)} {er er' : Int} (h : SysP n l t er) (k : SysP n (l ++ [x]) t' er') (hv : vOk n (l ++ [x]) = true) (h0 : er = 0) (hx : (t.getD x.a.toNat []).getD x.b.toNat 0 ≤ x.w) : er' = 0 ∧ t = t' := by
  obtain ⟨_, hn, hd⟩ := h.zero h0
  obtain ⟨_, ho⟩ := vOk_snoc hv
  have hd1 := hd.at ho.1 ho.2.1
  have hne : (t.getD x.a.toNat []).getD x.b.toNat 0 ≠ P15.none_ := by simp only [P15.none_]; omega
  have hn' : ¬ P15.Neg (eds (l ++ [x])) := by rw [eds_snoc]; exact fun hc => hn (P15.Neg.idle (x := ed x) hd1 hne hx hc)
  obtain ⟨h1, hd'⟩ := k.is0 hv hn'
  refine ⟨h1, DistT.unique (l := l ++ [x]) (nn := n.toNat) ⟨hd.len, hd.row, fun i v hi hv => ?_, hd.small⟩ hd'⟩
  rw [eds_snoc]
  exact P15.IsDist.idle (x := ed x) hd1 hne hx (hd.dist i v hi hv)
theorem more_cyc {n : Int} {l : List E3} {x : E3} {t t' : List (List Int)} {er er' : Int} (h : SysP n l t er) (k : SysP n (l ++ [x]) t' er') (hv : vOk n (l ++ [x]) = true) (h0 : er = 0) (h1 : er' ≠ 0) :
    er' = 151 ∧ (t.getD x.b.toNat []).getD x.a.toNat 0 < 1152921504606846976 ∧ (t.getD x.b.toNat []).getD x.a.toNat 0 + x.w < 0 := by
  obtain ⟨_, hn, hd⟩ := h.zero h0
  obtain ⟨_, ho⟩ := vOk_snoc hv
  have h2 : er' = 151 := (k.not h1).2.resolve_left fun h150 => by
    rcases k with ⟨_, h2, _⟩ | ⟨h2, _⟩ | ⟨h2, _⟩
    · rw [hv] at h2; cases h2
    · omega
    · omega
  have hn' := (k.v151 h2).2.1
  rw [eds_snoc] at hn'
  have hd1 := hd.at ho.2.1 ho.1
  have := P15.Neg.once (x := ed x) hd1 hn hn'
  have hs := hd.small x.b.toNat x.a.toNat (by omega) (by omega)
  simp only [ed, P15.none_] at this
  exact ⟨h2, by omega, this.2⟩
theorem more_less {n : Int} {l : List E3} {x : E3} {t t' : List (List Int)} {er er' : Int} (h : SysP n l t er) (k : SysP n (l ++ [x]) t' er') (h0 : er = 0) (h1 : er' = 0) {i v : Nat} (hi : i < n.toNat) (hv : v < n.toNat) :
    (t'.getD i []).getD v 0 ≤ (t.getD i []).getD v 0 := by
  obtain ⟨_, hn, hd⟩ := h.zero h0
  obtain ⟨_, hn', hd'⟩ := k.zero h1
  have a := hd.dist i v hi hv
  have b := hd'.dist i v hi hv
  have s := hd'.small i v hi hv
  rw [eds_snoc] at b
  by_cases hc : (t.getD i []).getD v 0 = P15.none_
  · simp only [P15.none_] at hc; omega
  · exact (P15.IsDist.more (fun y hy => List.mem_append.2 (.inl hy)) a b hc).2
/-! solutions -/
theorem DistT.full {n : Int} {l : List E3} {t : List (List Int)} (h : DistT l n.toNat t) (hv : vOk n l = true) (hn : ¬ P15.Neg (eds l)) (hb : ∀ i, i < n.toNat → T t 0 i ≠ 1152921504606846976 ∧ T t i 0 ≠ 1152921504606846976) : P15.Full (eds l) n.toNat (T t) := by
  have h1 := vOk_n hv
  have hv' : vOk (n.toNat : Nat) l = true := by rw [show ((n.toNat : Nat) : Int) = n by omega]; exact hv
  exact (P15.Full.of (f := T t) h.dist (fun x hx => (eds_ok hv' hx).1) hn (by omega) hb).1
theorem greatL_at {n : Int} {t : List (List Int)} {a v : Int} {N k : Nat} (hk : k < N) : (greatL n t a v N).getD k 0 = P15.great (T t) a.toNat v k := by
  rw [greatL, List.getD_eq_getElem?_getD, List.getElem?_map, List.getElem?_range hk]; rfl
theorem leastL_at {n : Int} {t : List (List Int)} {a v : Int} {N k : Nat} (hk : k < N) : (leastL n t a v N).getD k 0 = P15.small (T t) a.toNat v k := by
  rw [leastL, List.getD_eq_getElem?_getD, List.getElem?_map, List.getElem?_range hk]; rfl
theorem greatL_len {n : Int} {t : List (List Int)} {a v : Int} {N : Nat} : (greatL n t a v N).length = N := by simp [greatL]
theorem leastL_len {n : Int} {t : List (List Int)} {a v : Int} {N : Nat} : (leastL n t a v N).length = N := by simp [leastL]
/-- the error of Greatest and Least, where the value is an end -/
theorem SolP.err {F : Int → List (List Int) → Int → Int → Nat → List Int} {n : Int} {l : List E3} {a v : Int} {r : List Int} {e : Int} {t : List (List Int)} {er : Int} (h : SolP F n l a v r e) (hs : SysP n l t er) (h0 : er = 0) : e = solveE n.toNat t a v ∧ r = if e = 0 then F n t a v n.toNat else [] := by
  obtain ⟨t', er', h1, h2, h3⟩ := h
  obtain ⟨rfl, rfl⟩ := hs.unique h1
  exact ⟨by rw [h2, solR, if_neg (by omega)], h3⟩
theorem SolP.limit {F : Int → List (List Int) → Int → Int → Nat → List Int} {n : Int} {l : List E3} {a v : Int} {r : List Int} {e : Int} {t : List (List Int)} {er : Int} (h : SolP F n l a v r e) (hs : SysP n l t er) (h0 : er = 0) (ha : 0 ≤ a ∧ a < n) {i : Nat} (hi : i < n.toNat) (hb : T t 0 i = 1152921504606846976 ∨ T t i 0 = 1152921504606846976) : e = 2 := by
  rw [(h.err hs h0).1]; exact solve_2 (by omega) hi hb
theorem SolP.good {F : Int → List (List Int) → Int → Int → Nat → List Int} {n : Int} {l : List E3} {a v : Int} {r : List Int} {e : Int} {t : List (List Int)} {er : Int} (h : SolP F n l a v r e) (hs : SysP n l t er) (h0 : er = 0) (ha : 0 ≤ a ∧ a < n) (hb : ∀ i, i < n.toNat → ¬ (T t 0 i = 1152921504606846976 ∨ T t i 0 = 1152921504606846976)) (hv : -T t a.toNat 0 ≤ v ∧ v ≤ T t 0 a.toNat) : e = 0 ∧ r = F n t a v n.toNat := by
  obtain ⟨h1, h2⟩ := h.err hs h0
  have : e = 0 := by rw [h1]; exact solve_0 (by omega) hb (by omega)
  exact ⟨this, by rw [h2, if_pos this]⟩
/-- the ends of what is possible are possible -/
theorem DistT.ends {n : Int} {l : List E3} {t : List (List Int)} (h : DistT l n.toNat t) (hv : vOk n l = true) (hn : ¬ P15.Neg (eds l)) (hb : ∀ i, i < n.toNat → ¬ (T t 0 i = 1152921504606846976 ∨ T t i 0 = 1152921504606846976)) {a : Int} (ha : 0 ≤ a ∧ a < n) : P15.Full (eds l) n.toNat (T t) ∧ -T t a.toNat 0 ≤ T t 0 a.toNat ∧ T t 0 0 = 0 := by
  have hf := h.full hv hn (fun i hi => ⟨fun e => hb i hi (.inl e), fun e => hb i hi (.inr e)⟩)
  have h1 := hf.tri 0 a.toNat 0 (by omega) (by omega) (by omega)
  have h2 := hf.self 0 (by omega)
  exact ⟨hf, by omega, h2⟩
theorem hld_of {n : Int} {l : List E3} {v : List Int} (hv : vOk n l = true) (h1 : (v.length : Int) = n) (h2 : v.getD 0 0 = 0) (h3 : ∀ j, j < v.length → -1152921504606846976 ≤ v.getD j 0 ∧ v.getD j 0 ≤ 1152921504606846976) (h4 : ∀ k, k < l.length → v.getD (l.getD k default).b.toNat 0 ≤ v.getD (l.getD k default).a.toNat 0 + (l.getD k default).w) : hld n l v = true := by
  rw [hld_last hv ⟨h1, h2⟩ (not_any (d := 0) fun j hj => wide_in (by have := h3 j hj; omega) (by have := h3 j hj; omega)), not_any (d := default) (p := brk v) fun k hk => decide_eq_false (by have := h4 k hk; omega)]; rfl
/-- the greatest solution with its greatest value, and the least one with its least, satisfy the system -/
theorem great_holds {n : Int} {l : List E3} {t : List (List Int)} (h : DistT l n.toNat t) (hv : vOk n l = true) (hf : P15.Full (eds l) n.toNat (T t)) {a : Int} (ha : 0 ≤ a ∧ a < n) : hld n l (greatL n t a (T t 0 a.toNat) n.toNat) = true := by
  have hv' : vOk (n.toNat : Nat) l = true := by rw [show ((n.toNat : Nat) : Int) = n by omega]; exact hv
  have h0 := hf.self 0 (by omega)
  refine hld_of hv (by rw [greatL_len]; omega) (by rw [greatL_at (by omega), hf.great_top (by omega) (by omega)]; exact h0) (fun j hj => ?_) fun k hk => ?_
  · rw [greatL_len] at hj
    rw [greatL_at hj, hf.great_top (by omega) hj]
    have := h.sm 0 j (by omega) hj
    omega
  · have ho := vOk_at hv hk
    rw [greatL_at (by omega), greatL_at (by omega)]
    exact hf.great_solves (fun x hx => (eds_ok hv' hx).1) (by omega) (x := ed (l.getD k default)) (List.mem_of_getElem? (eds_at hk))
theorem least_holds {n : Int} {l : List E3} {t : List (List Int)} (h : DistT l n.toNat t) (hv : vOk n l = true) (hf : P15.Full (eds l) n.toNat (T t)) {a : Int} (ha : 0 ≤ a ∧ a < n) : hld n l (leastL n t a (-T t a.toNat 0) n.toNat) = true := by
  have hv' : vOk (n.toNat : Nat) l = true := by rw [show ((n.toNat : Nat) : Int) = n by omega]; exact hv
  have h0 := hf.self 0 (by omega)
  refine hld_of hv (by rw [leastL_len]; omega) (by rw [leastL_at (by omega), hf.small_top (by omega) (by omega)]; omega) (fun j hj => ?_) fun k hk => ?_
  · rw [leastL_len] at hj
    rw [leastL_at hj, hf.small_top (by omega) hj]
    have := h.sm j 0 hj (by omega)
    omega
  · have ho := vOk_at hv hk
    rw [leastL_at (by omega), leastL_at (by omega)]
    exact hf.small_solves (fun x hx => (eds_ok hv' hx).1) (by omega) (x := ed (l.getD k default)) (List.mem_of_getElem? (eds_at hk))
/-- a number below 1024, and its remainder -/
theorem andI_at (a : Int) : 0 ≤ andI a 1023 ∧ andI a 1023 ≤ 1023 := by
  unfold andI
  have h1 : (BitVec.ofInt IntKind.i64.bits a &&& BitVec.ofInt IntKind.i64.bits 1023).toNat ≤ 1023 := by
    rw [BitVec.toNat_and]
    exact Nat.le_trans Nat.and_le_right (by decide)
  rw [i64_nat _ (by omega)]
  omega

end Go.Proofs.Ytjmdodgmoehfkaa
