/- One relaxation, and a run of them, as they are written: on lists of ints. No program in sight. -/
import Derived.Test.YtjmdodgmoehfkaaBndA
namespace Go.Proofs.Ytjmdodgmoehfkaa

def ed (x : E3) : P15.Ed := ⟨x.a.toNat, x.b.toNat, x.w⟩
def eds (l : List E3) : List P15.Ed := l.map ed
theorem eds_len (l : List E3) : (eds l).length = l.length := by simp [eds]
theorem eds_at {l : List E3} {i : Nat} (h : i < l.length) : (eds l)[i]? = some (ed (l.getD i default)) := by
  simp [eds, List.getD_eq_getElem?_getD, List.getElem?_eq_getElem h]
theorem eds_mem {l : List E3} {x : P15.Ed} (h : x ∈ eds l) : ∃ i, i < l.length ∧ x = ed (l.getD i default) := by
  obtain ⟨i, hi, e⟩ := List.mem_iff_getElem.1 h
  rw [eds_len] at hi
  refine ⟨i, hi, ?_⟩
  have := eds_at hi
  rw [List.getElem?_eq_getElem (by rw [eds_len]; exact hi), e] at this
  injection this
/-- the edges lead from vertex to vertex, their lengths are small -/
theorem eds_ok {nn : Nat} {l : List E3} (h : vOk nn l = true) {x : P15.Ed} (hx : x ∈ eds l) : (x.a < nn ∧ x.b < nn) ∧ -P15.cap ≤ x.w ∧ x.w ≤ P15.cap := by
  obtain ⟨i, hi, rfl⟩ := eds_mem hx
  have := vOk_at h hi
  simp only [ed, P15.cap]
  omega
/-- a list of distances, from fo on, as a function -/
def fn (nn : Nat) (dflt : Int) (fo : Nat) (L : List Int) (v : Nat) : Int := if v < nn then L.getD (fo + v) 0 else dflt
def en (D : List Int) (v : Nat) : Nat := (D.getD v 0).toNat
theorem fn_lt {nn : Nat} {dflt : Int} {fo : Nat} {L : List Int} {v : Nat} (h : v < nn) : fn nn dflt fo L v = L.getD (fo + v) 0 := by simp only [fn, if_pos h]
theorem getDI_set {L : List Int} {i j : Nat} {x : Int} (h : i < L.length) : (L.set i x).getD j 0 = if j = i then x else L.getD j 0 := by
  by_cases hc : j = i
  · subst hc; simp [List.getD_eq_getElem?_getD, h]
  · have : i ≠ j := fun e => hc e.symm
    simp [List.getD_eq_getElem?_getD, List.getElem?_set_ne this, hc]
theorem fn_set {nn : Nat} {dflt : Int} {fo : Nat} {L : List Int} {v : Nat} {x : Int} (hv : v < nn) (hl : fo + nn ≤ L.length) : fn nn dflt fo (L.set (fo + v) x) = P15.upd (fn nn dflt fo L) v x := by
  funext u
  simp only [fn, P15.upd, getDI_set (show fo + v < L.length by omega)]
  by_cases hu : u < nn
  · simp only [if_pos hu]
    by_cases h2 : u = v
    · rw [if_pos (by omega), if_pos h2]
    · rw [if_neg (by omega), if_neg h2]
  · rw [if_neg hu, if_neg hu, if_neg (by omega)]
theorem en_set {D : List Int} {v q : Nat} (hv : v < D.length) : en (D.set v (q : Int)) = P15.upd (en D) v q := by
  funext u
  simp only [en, P15.upd, getDI_set hv]
  split <;> simp
/-- nothing to change along an edge -/
def noc (L : List Int) (fo : Nat) (x : E3) : Bool := if L.getD (fo + x.a.toNat) 0 = 1152921504606846976 then true else decide (L.getD (fo + x.b.toNat) 0 ≤ L.getD (fo + x.a.toNat) 0 + x.w)
def relL (L : List Int) (fo : Nat) (x : E3) : List Int := if noc L fo x then L else L.set (fo + x.b.toNat) (L.getD (fo + x.a.toNat) 0 + x.w)
def relD (L : List Int) (fo : Nat) (x : E3) (D : List Int) (i : Nat) : List Int := if noc L fo x then D else D.set x.b.toNat (i : Int)
theorem noc_t1 {L : List Int} {fo : Nat} {x : E3} (h : L.getD (fo + x.a.toNat) 0 = 1152921504606846976) : noc L fo x = true := by rw [noc, if_pos h]
theorem noc_t2 {L : List Int} {fo : Nat} {x : E3} (h : L.getD (fo + x.b.toNat) 0 ≤ L.getD (fo + x.a.toNat) 0 + x.w) : noc L fo x = true := by
  unfold noc; split
  · rfl
  · exact decide_eq_true h
theorem noc_f {L : List Int} {fo : Nat} {x : E3} (h1 : ¬ L.getD (fo + x.a.toNat) 0 = 1152921504606846976) (h : ¬ L.getD (fo + x.b.toNat) 0 ≤ L.getD (fo + x.a.toNat) 0 + x.w) : noc L fo x = false := by
  rw [noc, if_neg h1]; exact decide_eq_false h
theorem noc_or {L : List Int} {fo : Nat} {x : E3} (h : noc L fo x = true) : L.getD (fo + x.a.toNat) 0 = 1152921504606846976 ∨ L.getD (fo + x.b.toNat) 0 ≤ L.getD (fo + x.a.toNat) 0 + x.w := by
  unfold noc at h; split at h
  · rename_i h1; exact .inl h1
  · exact .inr (of_decide_eq_true h)
theorem noc_and {L : List Int} {fo : Nat} {x : E3} (h : noc L fo x = false) : ¬ L.getD (fo + x.a.toNat) 0 = 1152921504606846976 ∧ L.getD (fo + x.a.toNat) 0 + x.w < L.getD (fo + x.b.toNat) 0 := by
  unfold noc at h; split at h
  · cases h
  · rename_i h1; have := of_decide_eq_false h; exact ⟨h1, by omega⟩
theorem relL_len {L : List Int} {fo : Nat} {x : E3} : (relL L fo x).length = L.length := by unfold relL; split <;> simp
theorem relD_len {L : List Int} {fo : Nat} {x : E3} {D : List Int} {i : Nat} : (relD L fo x D i).length = D.length := by unfold relD; split <;> simp
/-- what a step keeps -/
def Keeps (G : (Nat → Int) → Prop) (E : List P15.Ed) : Prop := ∀ (F : Nat → Int) (x : P15.Ed), x ∈ E → F x.a ≠ P15.none_ → F x.a + x.w < F x.b → F x.a + x.w ≠ P15.none_ → G F → G (P15.upd F x.b (F x.a + x.w))
/-- the part before and behind is as it was -/
def Off (fo nn : Nat) (L0 L : List Int) : Prop := L.length = L0.length ∧ ∀ j, ¬ (fo ≤ j ∧ j < fo + nn) → L.getD j 0 = L0.getD j 0
theorem Off.refl (fo nn : Nat) (L : List Int) : Off fo nn L L := ⟨rfl, fun _ _ => rfl⟩
theorem Off.set {fo nn : Nat} {L0 L : List Int} (h : Off fo nn L0 L) {v : Nat} (hv : v < nn) (hl : fo + nn ≤ L.length) (x : Int) : Off fo nn L0 (L.set (fo + v) x) := by
  refine ⟨by rw [List.length_set]; exact h.1, fun j hj => ?_⟩
  rw [getDI_set (by omega), if_neg (by omega)]
  exact h.2 j hj
/-- what holds in round r, after q edges; last: what changed last in this round, or -1 -/
structure RI (G : (Nat → Int) → Prop) (l : List E3) (nn : Nat) (dflt : Int) (fo : Nat) (L0 L D : List Int) (r q : Nat) (last : Int) : Prop where
  off : Off fo nn L0 L
  len : fo + nn ≤ L.length
  dlen : D.length = nn
  dpos : ∀ j, 0 ≤ D.getD j 0
  inv : ∃ (t lv : Nat → Nat) (s : Nat), P15.Inv (eds l) (fn nn dflt fo L) (en D) t lv s r q ∧ s ≤ 31 * (r - 1) + q ∧ ((last = -1 ∧ ∀ v, lv v < r) ∨ ∃ v : Nat, last = (v : Int) ∧ v < nn ∧ lv v = r)
  g : G (fn nn dflt fo L)
/-- what holds at the head of round k + 1 -/
structure RH (G : (Nat → Int) → Prop) (l : List E3) (nn : Nat) (dflt : Int) (fo : Nat) (L0 L D : List Int) (k : Nat) (last : Int) : Prop where
  off : Off fo nn L0 L
  len : fo + nn ≤ L.length
  dlen : D.length = nn
  dpos : ∀ j, 0 ≤ D.getD j 0
  inv : ∃ (t lv : Nat → Nat) (s : Nat), P15.Inv (eds l) (fn nn dflt fo L) (en D) t lv s (k + 1) 0 ∧ s ≤ 31 * k ∧ ∀ v, lv v ≤ k
  g : G (fn nn dflt fo L)
  was : k = 0 ∨ (0 ≤ last ∧ RI G l nn dflt fo L0 L D k l.length last)
theorem RH.start {G : (Nat → Int) → Prop} {l : List E3} {nn : Nat} {dflt : Int} {fo : Nat} {L D : List Int} {last : Int} (hl : fo + nn ≤ L.length) (hd : D.length = nn) (hp : ∀ j, 0 ≤ D.getD j 0) (h : ∀ v, fn nn dflt fo L v = P15.none_ ∨ fn nn dflt fo L v = 0) (g : G (fn nn dflt fo L)) : RH G l nn dflt fo L L D 0 last where
  off := Off.refl _ _ _
  len := hl
  dlen := hd
  dpos := hp
  inv := ⟨_, _, 0, P15.Inv.start h, by omega, fun _ => Nat.le_refl _⟩
  g := g
  was := .inl rfl
theorem RH.round {G : (Nat → Int) → Prop} {l : List E3} {nn : Nat} {dflt : Int} {fo : Nat} {L0 L D : List Int} {k : Nat} {last : Int} (h : RH G l nn dflt fo L0 L D k last) : RI G l nn dflt fo L0 L D (k + 1) 0 (-1) where
  off := h.off
  len := h.len
  dlen := h.dlen
  dpos := h.dpos
  inv := by
    obtain ⟨t, lv, s, h1, h2, h3⟩ := h.inv
    exact ⟨t, lv, s, h1, by omega, .inl ⟨rfl, fun v => by have := h3 v; omega⟩⟩
  g := h.g
theorem RI.next {G : (Nat → Int) → Prop} {l : List E3} {nn : Nat} {dflt : Int} {fo : Nat} {L0 L D : List Int} {k : Nat} {last : Int} (h : RI G l nn dflt fo L0 L D (k + 1) l.length last) (h0 : ¬ last < 0) (hm : l.length ≤ 31) : RH G l nn dflt fo L0 L D (k + 1) last where
  off := h.off
  len := h.len
  dlen := h.dlen
  dpos := h.dpos
  inv := by
    obtain ⟨t, lv, s, h1, h2, h3⟩ := h.inv
    exact ⟨t, lv, s, h1.next (by rw [eds_len]; omega), by omega, h1.lle⟩
  g := h.g
  was := .inr ⟨by omega, h⟩
/-- no number is so great that a sum overflows -/
theorem RI.small {G : (Nat → Int) → Prop} {l : List E3} {nn : Nat} {dflt : Int} {fo : Nat} {L0 L D : List Int} {r q : Nat} {last : Int} (h : RI G l nn dflt fo L0 L D r q last) (hr : r ≤ 8) (hq : q ≤ 31) {v : Nat} (hv : v < nn) : L.getD (fo + v) 0 = 1152921504606846976 ∨ (-9007199254740992 ≤ L.getD (fo + v) 0 ∧ L.getD (fo + v) 0 ≤ 9007199254740992) := by
  obtain ⟨t, lv, s, h1, h2, -⟩ := h.inv
  have := h1.bnd v
  rw [fn_lt hv] at this
  simp only [P15.none_, P15.cap] at this
  omega
theorem RI.skip {G : (Nat → Int) → Prop} {l : List E3} {nn : Nat} {dflt : Int} {fo : Nat} {L0 L D : List Int} {r q : Nat} {last : Int} (h : RI G l nn dflt fo L0 L D r q last) (hv : vOk nn l = true) (hq : q < l.length) (hn : noc L fo (l.getD q default) = true) :
    RI G l nn dflt fo L0 (relL L fo (l.getD q default)) (relD L fo (l.getD q default) D q) r (q + 1) last := by
  have e1 : relL L fo (l.getD q default) = L := by rw [relL, if_pos hn]
  have e2 : relD L fo (l.getD q default) D q = D := by rw [relD, if_pos hn]
  rw [e1, e2]
  refine ⟨h.off, h.len, h.dlen, h.dpos, ?_, h.g⟩
  obtain ⟨t, lv, s, h1, h2, h3⟩ := h.inv
  have ho := vOk_at hv hq
  refine ⟨t, lv, s, h1.skip (eds_at hq) ?_, by omega, h3⟩
  have := noc_or hn
  simp only [ed]
  rw [fn_lt (by omega), fn_lt (by omega)]
  simp only [P15.none_]
  exact this
theorem RI.relax {G : (Nat → Int) → Prop} {l : List E3} {nn : Nat} {dflt : Int} {fo : Nat} {L0 L D : List Int} {r q : Nat} {last : Int} (h : RI G l nn dflt fo L0 L D r q last) (hv : vOk nn l = true) (hG : Keeps G (eds l)) (hr : r ≤ 8) (hq : q < l.length) (hm : l.length ≤ 31) (hn : noc L fo (l.getD q default) = false) :
    RI G l nn dflt fo L0 (relL L fo (l.getD q default)) (relD L fo (l.getD q default) D q) r (q + 1) (l.getD q default).b := by
  have ho := vOk_at hv hq
  have hsa := h.small (v := (l.getD q default).a.toNat) hr (by omega) (by omega)
  obtain ⟨n1, n2⟩ := noc_and hn
  have e1 : relL L fo (l.getD q default) = L.set (fo + (l.getD q default).b.toNat) (L.getD (fo + (l.getD q default).a.toNat) 0 + (l.getD q default).w) := by rw [relL, hn]; rfl
  have e2 : relD L fo (l.getD q default) D q = D.set (l.getD q default).b.toNat (q : Int) := by rw [relD, hn]; rfl
  have hb : (l.getD q default).b.toNat < nn := by omega
  have ea : fn nn dflt fo L (ed (l.getD q default)).a = L.getD (fo + (l.getD q default).a.toNat) 0 := fn_lt (by simp only [ed]; omega)
  have eb : fn nn dflt fo L (ed (l.getD q default)).b = L.getD (fo + (l.getD q default).b.toNat) 0 := fn_lt hb
  have hmem : ed (l.getD q default) ∈ eds l := List.mem_of_getElem? (eds_at hq)
  have c1 : fn nn dflt fo L (ed (l.getD q default)).a ≠ P15.none_ := by rw [ea]; exact n1
  have c2 : fn nn dflt fo L (ed (l.getD q default)).a + (ed (l.getD q default)).w < fn nn dflt fo L (ed (l.getD q default)).b := by rw [ea, eb]; exact n2
  have c3 : fn nn dflt fo L (ed (l.getD q default)).a + (ed (l.getD q default)).w ≠ P15.none_ := by rw [ea]; simp only [ed, P15.none_]; omega
  have ef : fn nn dflt fo (L.set (fo + (l.getD q default).b.toNat) (L.getD (fo + (l.getD q default).a.toNat) 0 + (l.getD q default).w)) = P15.upd (fn nn dflt fo L) (ed (l.getD q default)).b (fn nn dflt fo L (ed (l.getD q default)).a + (ed (l.getD q default)).w) := by rw [fn_set hb h.len, ea]; rfl
  have ee : en (D.set (l.getD q default).b.toNat (q : Int)) = P15.upd (en D) (ed (l.getD q default)).b q := en_set (by rw [h.dlen]; exact hb)
  rw [e1, e2]
  refine ⟨h.off.set hb h.len _, by rw [List.length_set]; exact h.len, by rw [List.length_set]; exact h.dlen, fun j => by rw [getDI_set (by rw [h.dlen]; exact hb)]; have := h.dpos j; split <;> omega, ?_, by rw [ef]; exact hG _ _ hmem c1 c2 c3 h.g⟩
  obtain ⟨t, lv, s, h1, h2, -⟩ := h.inv
  rw [ef, ee]
  refine ⟨_, _, _, h1.relax (eds_at hq) c1 c2 ⟨(eds_ok hv hmem).2.1, (eds_ok hv hmem).2.2⟩ (by simp only [P15.cap, P15.none_]; omega), by omega, .inr ⟨(l.getD q default).b.toNat, by omega, hb, P15.upd_same _ _ _⟩⟩
/-- what a run leaves -/
structure Ran (G : (Nat → Int) → Prop) (l : List E3) (nn : Nat) (dflt : Int) (fo : Nat) (L0 L D : List Int) (last : Int) : Prop where
  off : Off fo nn L0 L
  len : fo + nn ≤ L.length
  dlen : D.length = nn
  dpos : ∀ j, 0 ≤ D.getD j 0
  inv : ∃ (t lv : Nat → Nat) (s r : Nat), P15.Inv (eds l) (fn nn dflt fo L) (en D) t lv s r l.length ∧ s ≤ 248 ∧ ((last = -1 ∧ ∀ x ∈ eds l, fn nn dflt fo L x.a = P15.none_ ∨ fn nn dflt fo L x.b ≤ fn nn dflt fo L x.a + x.w) ∨ ∃ v : Nat, last = (v : Int) ∧ v < nn ∧ r = nn ∧ lv v = nn)
  g : G (fn nn dflt fo L)
theorem RI.ran {G : (Nat → Int) → Prop} {l : List E3} {nn : Nat} {dflt : Int} {fo : Nat} {L0 L D : List Int} {k q : Nat} {last : Int} (h : RI G l nn dflt fo L0 L D (k + 1) q last) (hq : q = l.length) (h0 : last < 0) (hk : k + 1 ≤ 8) (hm : l.length ≤ 31) : Ran G l nn dflt fo L0 L D last where
  off := h.off
  len := h.len
  dlen := h.dlen
  dpos := h.dpos
  inv := by
    subst hq
    obtain ⟨t, lv, s, h1, h2, h3⟩ := h.inv
    rcases h3 with ⟨h3, h4⟩ | ⟨v, h3, _⟩
    · exact ⟨t, lv, s, _, h1, by omega, .inl ⟨h3, h1.quiet (by rw [eds_len]; omega) h4⟩⟩
    · omega
  g := h.g
theorem RH.ran {G : (Nat → Int) → Prop} {l : List E3} {nn : Nat} {dflt : Int} {fo : Nat} {L0 L D : List Int} {k : Nat} {last : Int} (h : RH G l nn dflt fo L0 L D k last) (hk : k = nn) (h0 : 0 < nn) (h8 : nn ≤ 8) (hm : l.length ≤ 31) : Ran G l nn dflt fo L0 L D last := by
  subst hk
  rcases h.was with h1 | ⟨h1, h2⟩
  · omega
  · refine ⟨h2.off, h2.len, h2.dlen, h2.dpos, ?_, h2.g⟩
    obtain ⟨t, lv, s, h3, h4, h5⟩ := h2.inv
    rcases h5 with ⟨h5, _⟩ | ⟨v, h5, h6, h7⟩
    · omega
    · exact ⟨t, lv, s, _, h3, by omega, .inr ⟨v, h5, h6, rfl, h7⟩⟩

end Go.Proofs.Ytjmdodgmoehfkaa
