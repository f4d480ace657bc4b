/- The frame of a law: how an argument opens to what it reads as; and that a law that changes nothing that was there owes nothing else. No program in sight. -/
import Derived.Test.YtjmdodgmoehfkaaBase
import Derived.ProofKit
import Derived.SizedLaws
import Derived.Deep.Slices
namespace Go.Proofs.Ytjmdodgmoehfkaa
open Go.RowKit Go.ChangeShapes Go.WideShapes Go.ChangeAt Go.Deep

section
variable {H : Type} {enc : TypeId × Value → H} {P : Program}

/-- The blocks that were there. -/
def Old (w : World) (b : Nat) : Prop := b < w.heap.size

theorem sameAt_of_ext {W W' : World} (hb : Ext W W') {p : MemPlace} (hp : p.block < W.heap.size) : W.sameAt W' p := by
  cases p with
  | cell b off => exact hb.cell hp
  | map b => exact hb.below.block b hp

theorem trodAll_ext {W W' : World} (hb : Ext W W') {sp : Nat → Bool} : ∀ {ts : List TypeId} {vs : List Value} {ds : List (DataW H)} {ps : List MemPlace},
    DataW.TrodAll enc P W 0 sp true ts vs ds ps → (∀ p ∈ ps, p.block < W.heap.size) → DataW.TrodAll enc P W' 0 sp true ts vs ds ps
  | [], [], [], _, h, _ => h
  | _ :: _, _ :: _, _ :: _, _, ⟨p, q, ⟨n, h1⟩, h2, e⟩, hs =>
    ⟨p, q, ⟨n, DataW.trod_carry n _ _ _ h1 (fun x hx => sameAt_of_ext hb (hs x (by rw [e]; exact List.mem_append_left _ hx)))⟩,
      trodAll_ext hb h2 (fun x hx => hs x (by rw [e]; exact List.mem_append_right _ hx)), e⟩

/-- What a law owes behind its call: it has returned true, and nothing that was there has changed. -/
theorem law_post {f : Func} {s : ChangeSpec} {W W' : World} {args : Array Value} {ds : List (DataW H)} {before : List MemPlace}
    (hl : laidOutB P = true) (hm : mapsRowed P = true) (hf : ((List.range P.types.size).all fun t => match P.underlying t with | some (.slice e) => decide (0 < P.cellsOf e) | _ => true) = true)
    (hts : ∀ t ∈ f.params.toList, t < P.types.size) (hv : s.vars = []) {tb : TypeId} (hr : f.resultTypes = #[tb]) (hb : P.underlying tb = some .bool)
    (hs : s.fn H ds = { results := [.lit (.bool true)], args := ds })
    (hW : DataW.Whole enc P f.params.toList s.vars false W args.toList ds [] before) (hx : Ext W W') :
    s.post enc P f false true false false W args (.bool true) W' := by
  have hlt : ∀ p ∈ before, p.block < W.heap.size := fun p hp => hW.lt p hp
  obtain ⟨p, q, hA, hV, rfl, hz, hn⟩ := id hW
  rw [hv] at hV
  have hq : q = [] := hV
  subst hq
  rw [List.append_nil] at hW hlt hz
  have again : ∀ sp : Nat → Bool, (∀ x ∈ p, sp x.block = true) → DataW.TrodAll enc P W' 0 sp true f.params.toList args.toList ds p := fun sp hsp =>
    trodAll_ext hx (DataW.TrodAll.respare (kids_rows hl hm) (fun t e ht hu => slices_full_of P hf t e ht hu) hts hA hsp) hlt
  have hold : ∀ x ∈ p, (fun b => decide (b < W.heap.size)) x.block = true := fun x hx => by simpa using hlt x hx
  have hres : ∀ (b : Nat) (sp : Nat → Bool) (hd : Bool), DataW.TrodAll enc P W' b sp hd f.resultTypes.toList ((Value.bool true).resultList f.resultTypes.size) [.lit (.bool true)] [] := fun b sp hd => by
    rw [hr]; exact trodAll_mk1 (shut_bool hb _)
  refine ⟨ds, [], p, [], p, [], hW, ?_, ?_, ?_, ?_, fun _ => ?_⟩
  · rw [List.append_nil, hs]; exact hres _ _ _
  · rw [List.append_nil, hs]; exact again _ hold
  · rw [List.append_nil, hs, hv]; rfl
  · refine World.keptBut_mono (fun x hx => ⟨hx, ?_⟩) (hx.below.frame (· ∈ p))
    exact Or.inr (by simpa using hx)
  · refine ⟨?_, [.lit (.bool true)] ++ ds, [], ([] ++ p) ++ [], ⟨[] ++ p, [], ?_, ?_, rfl, ?_, ?_⟩, ?_⟩
    · exact ok_one hr rfl (okWide_bool_mk hb _)
    · exact trodAll_append (again _ (fun _ _ => rfl)) (hres _ _ _)
    · rw [hv]; rfl
    · intro b off hp
      have hin : MemPlace.cell b off ∈ p := by simpa using hp
      rw [hx.frz b off (hlt _ hin)]
      exact hz b off hin
    · intro ha; cases ha
    · intro x hx _
      simpa using hx

/-- The weights of a datum are within reach. -/
def Reach (P : Program) (t : TypeId) (d : DataW H) : Prop := ∀ n ∈ d.weights P t, n ≤ reachBytes

theorem reach_of {ts : List TypeId} {ds : List (DataW H)} (h : (DataW.weightsEach P ts ds).all (· ≤ reachBytes) = true) {j : Nat} {t : TypeId} {d : DataW H} (ht : ts[j]? = some t) (hd : ds[j]? = some d) : Reach P t d := fun n hn => by
  have := List.all_eq_true.1 h n (DataW.weights_mem_each ht hd n hn)
  simpa using this

theorem weightsAll_mem {e : TypeId} {x : DataW H} {n : Nat} (hn : n ∈ x.weights P e) : ∀ {l : List (DataW H)}, x ∈ l → n ∈ DataW.weightsAll P e l
  | y :: l, h => by
    simp only [DataW.weightsAll, List.mem_append]
    cases h with
    | head => exact .inl hn
    | tail _ h => exact .inr (weightsAll_mem hn h)

theorem Reach.elem {t e : TypeId} {l s : List (DataW H)} (h : Reach P t (.slice l s)) (ht : P.underlying t = some (.slice e)) {x : DataW H} (hx : x ∈ l) : Reach P e x := fun n hn => h n (by
  simp only [DataW.weights, ht, List.mem_cons, List.mem_append]
  exact .inr (.inl (weightsAll_mem hn hx)))
theorem Reach.len {t e : TypeId} {l s : List (DataW H)} (h : Reach P t (.slice l s)) (ht : P.underlying t = some (.slice e)) : (l.length + s.length) * P.bytesOf e ≤ reachBytes := h _ (by
  simp [DataW.weights, ht])
theorem Reach.field {t : TypeId} {fs : Array Field} {l : List (DataW H)} (h : Reach P t (.agg l)) (ht : P.underlying t = some (.struct fs)) {j : Nat} {f : Field} {x : DataW H} (hf : fs[j]? = some f) (hx : l[j]? = some x) : Reach P f.type x := fun n hn => h n (by
  simp only [DataW.weights, ht]
  refine DataW.weights_mem_each (j := j) (t := f.type) (d := x) ?_ hx n hn
  rw [List.getElem?_map, Array.getElem?_toList, hf]; rfl)

end

/-- A choice for every index, as a list. -/
theorem list_of_lt {α : Type} {n : Nat} {p : Nat → α → Prop} (h : ∀ i, i < n → ∃ x, p i x) : ∃ l : List α, l.length = n ∧ ∀ i (hi : i < l.length), p i l[i] := by
  induction n with
  | zero => exact ⟨[], rfl, fun i hi => absurd hi (Nat.not_lt_zero _)⟩
  | succ n ih =>
    obtain ⟨l, hl, hp⟩ := ih (fun i hi => h i (Nat.lt_succ_of_lt hi))
    obtain ⟨x, hx⟩ := h n (Nat.lt_succ_self n)
    refine ⟨l ++ [x], by simp [hl], fun i hi => ?_⟩
    by_cases hlt : i < l.length
    · rw [List.getElem_append_left hlt]; exact hp i hlt
    · have : i = l.length := by simp at hi; omega
      subst this
      simp only [List.getElem_append_right (Nat.le_refl _), Nat.sub_self, List.getElem_cons_zero]
      rw [hl]; exact hx

section
variable {H : Type} {enc : TypeId × Value → H} {P : Program} {W : World}

theorem flat_length {α : Type} {l : List (List α)} {k : Nat} (h : ∀ x ∈ l, x.length = k) : l.flatten.length = l.length * k := by
  induction l with
  | nil => simp
  | cons x l ih =>
    rw [List.flatten_cons, List.length_append, ih (fun y hy => h y (List.mem_cons_of_mem _ hy)), h x (List.mem_cons_self ..), List.length_cons, Nat.add_mul, Nat.one_mul, Nat.add_comm]

theorem chunk_flat {l : List (List Value)} {k : Nat} (h : ∀ x ∈ l, x.length = k) : ∀ i (hi : i < l.length), chunk k l.flatten i = l[i] := by
  induction l with
  | nil => intro i hi; exact absurd hi (Nat.not_lt_zero _)
  | cons x l ih =>
    intro i hi
    have hx := h x (List.mem_cons_self ..)
    unfold chunk
    cases i with
    | zero => simp [hx]
    | succ i =>
      rw [List.flatten_cons, Nat.add_mul, Nat.one_mul, List.drop_append, List.drop_eq_nil_of_le (by omega), List.nil_append, hx, Nat.add_sub_cancel]
      exact ih (fun y hy => h y (List.mem_cons_of_mem _ hy)) i (by simpa using hi)

theorem flat_get {l : List (List Value)} {k : Nat} (h : ∀ x ∈ l, x.length = k) {j : Nat} {u : Value} (hu : l.flatten[j]? = some u) (hk : 0 < k) : ∃ x, l[j / k]? = some x ∧ x[j % k]? = some u := by
  induction l generalizing j with
  | nil => simp at hu
  | cons x l ih =>
    have hx := h x (List.mem_cons_self ..)
    rw [List.flatten_cons] at hu
    by_cases hj : j < k
    · rw [List.getElem?_append_left (by omega)] at hu
      exact ⟨x, by simp [Nat.div_eq_of_lt hj], by rw [Nat.mod_eq_of_lt hj]; exact hu⟩
    · rw [List.getElem?_append_right (by omega), hx] at hu
      obtain ⟨y, h1, h2⟩ := ih (fun y hy => h y (List.mem_cons_of_mem _ hy)) hu
      have hd : j / k = (j - k) / k + 1 := by rw [← Nat.sub_add_cancel (by omega : k ≤ j), Nat.add_div_right _ hk, Nat.add_sub_cancel]
      refine ⟨y, by rw [hd]; simpa using h1, ?_⟩
      rwa [Nat.mod_eq_sub_mod (by omega)]

/-- Elements that are formed: one cell each. -/
def OneC (cs : List Value) : Prop := ∀ u ∈ cs, u.oneCell' = true

/-- A slice opens: each element by what its own reading gives. -/
theorem open_rsl {α : Type} {k : Nat} {R : World → List Value → α → Prop} {B : α → Prop} {t e : TypeId} {fuel : Nat} {cs : List Value} {x : DataW H × List MemPlace}
    (ht : P.underlying t = some (.slice e)) (hk : P.cellsOf e = k) (hk0 : 0 < k) (h : DataW.trod enc P W 0 (fun _ => true) true fuel t cs = some x) (hreach : Reach P t x.1)
    (hR : ∀ n cs' y, DataW.trod enc P W 0 (fun _ => true) true n e cs' = some y → Reach P e y.1 → ∃ a, R W cs' a ∧ B a ∧ OneC cs') :
    ∃ v l, cs = [v] ∧ RSl (Old W) k R W v l ∧ (∀ a ∈ l, B a) ∧ l.length * P.bytesOf e ≤ reachBytes ∧ v.oneCell' = true := by
  rcases open_slice ht h with ⟨rfl, rfl⟩ | ⟨a, len, cap, m, n, D, Pl, rfl, hb, hlc, hcm, hm, rfl, hi⟩
  · exact ⟨_, [], rfl, RSl.nil _, (fun a ha => by cases ha), (by simp), rfl⟩
  · simp only [if_true] at hm
    subst hm
    rw [hk] at hi
    have hsome : ∀ i, i < len → ∃ ya : List Value × α, (W.cells? 0 (a.add (i * k)) k = some ya.1 ∧ R W ya.1 ya.2) ∧ B ya.2 ∧ OneC ya.1 := fun i hil => by
      obtain ⟨cs', hc, htr⟩ := hi i (by omega)
      obtain ⟨y, h1, h2, h3⟩ := hR n cs' _ htr (hreach.elem ht (by simp only [List.mem_map]; exact ⟨i, List.mem_range.2 hil, rfl⟩))
      exact ⟨(cs', y), ⟨hc, h1⟩, h2, h3⟩
    obtain ⟨L, hL, hp⟩ := list_of_lt hsome
    have hlen : ∀ y ∈ L.map (·.1), y.length = k := fun y hy => by
      obtain ⟨z, hz, rfl⟩ := List.mem_map.1 hy
      obtain ⟨i, hil, rfl⟩ := List.getElem_of_mem hz
      exact (World.cells?_some (hp i hil).1.1).2.1
    have hcell : ∀ i (hil : i < L.length) (j : Nat) (u : Value), (L[i].1)[j]? = some u → W.cell? (a.add (i * k + j)) = some u := fun i hil j u hu => by
      obtain ⟨_, hl2, hat⟩ := World.cells?_some (hp i hil).1.1
      have hjk : j < k := by rw [← hl2]; exact (List.getElem?_eq_some_iff.1 hu).1
      have := hat j hjk
      rw [hu, add_add] at this
      exact this
    have hLl : (L.map (·.1)).length = L.length := List.length_map ..
    refine ⟨_, L.map (·.2), rfl, ⟨some a, m, (L.map (·.1)).flatten, by rw [List.length_map, hL], ⟨by rw [List.length_map]; omega, by simpa [maxLen] using hcm⟩, ⟨?_, ?_, fun h0 => ?_⟩, fun i hil => ?_, fun h0 => ?_⟩, fun y hy => ?_, ?_, rfl⟩
    · rw [flat_length hlen, hLl, List.length_map]
    · intro u hu
      obtain ⟨y, hy, hu⟩ := List.mem_flatten.1 hu
      obtain ⟨z, hz, rfl⟩ := List.mem_map.1 hy
      obtain ⟨i, hil, rfl⟩ := List.getElem_of_mem hz
      exact (hp i hil).2.2 u hu
    · rw [List.length_map] at h0
      have hc0 : ∃ u, W.cell? (a.add 0) = some u := by
        have h1 : (L[0].1)[0]? = some ((L[0].1)[0]'(by rw [hlen _ (List.mem_map.2 ⟨_, List.getElem_mem h0, rfl⟩)]; exact hk0)) := List.getElem?_eq_getElem _
        have := hcell 0 h0 0 _ h1
        rw [Nat.zero_mul, Nat.zero_add] at this
        exact ⟨_, this⟩
      obtain ⟨u0, hu0⟩ := hc0
      have ha0 : a.add 0 = a := by simp [Addr.add]
      rw [ha0] at hu0
      obtain ⟨b, off, spot⟩ := a
      have hspot : spot = none := World.cell?_spot hu0
      subst hspot
      refine ⟨b, off, rfl, World.block_lt_of_cell? W _ hu0, fun j u hu => ?_⟩
      obtain ⟨y, h1, h2⟩ := flat_get hlen hu hk0
      rw [List.getElem?_map] at h1
      obtain ⟨z, h3, rfl⟩ := Option.map_eq_some_iff.1 h1
      obtain ⟨hil, rfl⟩ := List.getElem?_eq_some_iff.1 h3
      have := hcell _ hil _ _ h2
      rw [Nat.mul_comm, Nat.div_add_mod] at this
      rw [← this]
      congr 1
      unfold Addr.add
      split <;> simp_all
    · rw [List.length_map] at hil
      rw [chunk_flat hlen i (by simpa using hil)]
      simp only [List.getElem_map]
      exact (hp i hil).1.2
    · rw [List.length_map] at h0
      have h1 : (L[0].1)[0]? = some ((L[0].1)[0]'(by rw [hlen _ (List.mem_map.2 ⟨_, List.getElem_mem h0, rfl⟩)]; exact hk0)) := List.getElem?_eq_getElem _
      have hu0 := hcell 0 h0 0 _ h1
      rw [Nat.zero_mul, Nat.zero_add] at hu0
      have ha0 : a.add 0 = a := by simp [Addr.add]
      rw [ha0] at hu0
      obtain ⟨b, off, spot⟩ := a
      have hspot : spot = none := World.cell?_spot hu0
      subst hspot
      exact ⟨b, off, rfl, World.block_lt_of_cell? W _ hu0⟩
    · obtain ⟨z, hz, rfl⟩ := List.mem_map.1 hy
      obtain ⟨i, hil, rfl⟩ := List.getElem_of_mem hz
      exact (hp i hil).2.1
    · have := hreach.len ht
      simp only [List.length_map, List.length_range] at this
      rw [List.length_map, hL]
      exact Nat.le_trans (Nat.mul_le_mul_right _ (Nat.le_add_right _ _)) this

/-- Bytes open. -/
theorem open_byte {e : TypeId} (he : P.underlying e = some (.int .u8)) (n : Nat) (cs' : List Value) (y : DataW H × List MemPlace) (h : DataW.trod enc P W 0 (fun _ => true) true n e cs' = some y) : ∃ c : UInt8, RByte W cs' c ∧ True ∧ OneC cs' := by
  obtain ⟨m, rfl, _, hw⟩ := DataW.trod_int he h
  have hb : 0 ≤ m ∧ m ≤ 255 := by simpa [Lit.wf, IntKind.min, IntKind.max, IntKind.signed, IntKind.bits] using hw
  refine ⟨UInt8.ofNat m.toNat, ?_, trivial, fun u hu => ?_⟩
  · unfold RByte
    have : (UInt8.ofNat m.toNat).toNat = m.toNat := by rw [UInt8.toNat_ofNat']; omega
    rw [this, Int.toNat_of_nonneg hb.1]
  · simp at hu; subst hu; rfl

theorem open_bytes {t e : TypeId} (ht : P.underlying t = some (.slice e)) (he : P.underlying e = some (.int .u8)) (hc : P.cellsOf e = 1) (hby : P.bytesOf e = 1) {n : Nat} {cs : List Value} {y : DataW H × List MemPlace}
    (h : DataW.trod enc P W 0 (fun _ => true) true n t cs = some y) (hr : Reach P t y.1) : ∃ v l, cs = [v] ∧ RBs (Old W) W v l ∧ l.length ≤ 140737488351232 ∧ v.oneCell' = true := by
  obtain ⟨v, l, h1, h2, _, h4, h5⟩ := open_rsl (k := 1) (R := RByte) (B := fun _ => True) ht hc (by omega) h hr (fun n cs' y hy _ => open_byte he n cs' y hy)
  refine ⟨v, l, h1, h2, ?_, h5⟩
  rw [hby, Nat.mul_one] at h4
  exact h4

end

end Go.Proofs.Ytjmdodgmoehfkaa
