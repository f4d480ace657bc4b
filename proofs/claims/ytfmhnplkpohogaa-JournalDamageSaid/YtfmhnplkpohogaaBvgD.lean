/- Several texts in one: LocD, RefB, Frame, LawA, Plain, JrP, Apl, Apm, JrE, JrF. -/
import Derived.Test.YtfmhnplkpohogaaBvgA
import Derived.Test.YtfmhnplkpohogaaBvgC
import Derived.ProofKit
import Derived.SizedLaws
import Derived.Deep.Slices
import Derived.KernelRfl
import Derived.Test.YtfmhnplkpohogaaBvgB
import Derived.Test.YtfmhnplkpohogaaProg
set_option linter.unusedVariables false
set_option linter.unusedSimpArgs false
namespace Go.Proofs.Ytfmhnplkpohogaa
open Go.RowKit

variable {S S' : Nat → Prop}

theorem RWs.pres {w w' : World} {v : Value} {l : List (Int × List UInt8)} (h : RWs S w v l) (hp : Pres S w w') : RWs S w' v l := h.keep hp.1 hp.2
theorem RDk.pres {w w' : World} {v : Value} {d : Dk} (h : RDk S w v d) (hp : Pres S w w') : RDk S w' v d := h.keep hp.1 hp.2
theorem RWr.subB {w : World} {cs : List Value} {x : Int × List UInt8} (h : RWr S w cs x) (hs : ∀ b, b < w.heap.size → S b → S' b) : RWr S' w cs x := by
  obtain ⟨v, hv, h⟩ := h; exact ⟨v, hv, h.subB hs⟩
theorem RWs.subB {w : World} {v : Value} {l : List (Int × List UInt8)} (h : RWs S w v l) (hs : ∀ b, b < w.heap.size → S b → S' b) : RWs S' w v l := RSl.subB h hs fun _ _ h => h.subB hs
theorem RDk.subB {w : World} {v : Value} {d : Dk} (h : RDk S w v d) (hs : ∀ b, b < w.heap.size → S b → S' b) : RDk S' w v d := by
  obtain ⟨A, n, c, B, m, e, hv, h1, h2⟩ := h; exact ⟨A, n, c, B, m, e, hv, h1.subB hs, h2.subB hs⟩

end Go.Proofs.Ytfmhnplkpohogaa

namespace Go.Proofs.Ytfmhnplkpohogaa
set_option maxRecDepth 100000
open Go.RowKit

variable {S S' : Nat → Prop}

def lenOf : Value → Nat | .slice _ n _ => n | _ => 0

end Go.Proofs.Ytfmhnplkpohogaa

namespace Go.Proofs.Ytfmhnplkpohogaa
open Go.RowKit Go.ChangeShapes Go.WideShapes Go.ChangeAt Go.Deep

section
variable {H : Type} {enc : TypeId × Value → H} {P : Program}

/-- The blocks that were there. -/
def Old (w : World) (b : Nat) : Prop := b < w.heap.size

theorem sameAt_of_ext {W W' : World} (hb : Ext W W') {p : MemPlace} (hp : p.block < W.heap.size) : W.sameAt W' p := by
  cases p with
  | cell b off => exact hb.cell hp
  | map b => exact hb.below.block b hp

theorem trodAll_ext {W W' : World} (hb : Ext W W') {sp : Nat → Bool} : ∀ {ts : List TypeId} {vs : List Value} {ds : List (DataW H)} {ps : List MemPlace},
    DataW.TrodAll enc P W 0 sp true ts vs ds ps → (∀ p ∈ ps, p.block < W.heap.size) → DataW.TrodAll enc P W' 0 sp true ts vs ds ps
  | [], [], [], _, h, _ => h
  | _ :: _, _ :: _, _ :: _, _, ⟨p, q, ⟨n, h1⟩, h2, e⟩, hs =>
    ⟨p, q, ⟨n, DataW.trod_carry n _ _ _ h1 (fun x hx => sameAt_of_ext hb (hs x (by rw [e]; exact List.mem_append_left _ hx)))⟩,
      trodAll_ext hb h2 (fun x hx => hs x (by rw [e]; exact List.mem_append_right _ hx)), e⟩

/-- What a law owes behind its call: it has returned true, and nothing that was there has changed. -/
theorem law_post {f : Func} {s : ChangeSpec} {W W' : World} {args : Array Value} {ds : List (DataW H)} {before : List MemPlace}
    (hl : laidOutB P = true) (hm : mapsRowed P = true) (hf : ((List.range P.types.size).all fun t => match P.underlying t with | some (.slice e) => decide (0 < P.cellsOf e) | _ => true) = true)
    (hts : ∀ t ∈ f.params.toList, t < P.types.size) (hv : s.vars = []) {tb : TypeId} (hr : f.resultTypes = #[tb]) (hb : P.underlying tb = some .bool)
    (hs : s.fn H ds = { results := [.lit (.bool true)], args := ds })
    (hW : DataW.Whole enc P f.params.toList s.vars false W args.toList ds [] before) (hx : Ext W W') :
    s.post enc P f false true false false W args (.bool true) W' := by
  have hlt : ∀ p ∈ before, p.block < W.heap.size := fun p hp => hW.lt p hp
  obtain ⟨p, q, hA, hV, rfl, hz, hn⟩ := id hW
  rw [hv] at hV
  have hq : q = [] := hV
  subst hq
  rw [List.append_nil] at hW hlt hz
  have again : ∀ sp : Nat → Bool, (∀ x ∈ p, sp x.block = true) → DataW.TrodAll enc P W' 0 sp true f.params.toList args.toList ds p := fun sp hsp =>
    trodAll_ext hx (DataW.TrodAll.respare (kids_rows hl hm) (fun t e ht hu => slices_full_of P hf t e ht hu) hts hA hsp) hlt
  have hold : ∀ x ∈ p, (fun b => decide (b < W.heap.size)) x.block = true := fun x hx => by simpa using hlt x hx
  have hres : ∀ (b : Nat) (sp : Nat → Bool) (hd : Bool), DataW.TrodAll enc P W' b sp hd f.resultTypes.toList ((Value.bool true).resultList f.resultTypes.size) [.lit (.bool true)] [] := fun b sp hd => by
    rw [hr]; exact trodAll_mk1 (shut_bool hb _)
  refine ⟨ds, [], p, [], p, [], hW, ?_, ?_, ?_, ?_, fun _ => ?_⟩
  · rw [List.append_nil, hs]; exact hres _ _ _
  · rw [List.append_nil, hs]; exact again _ hold
  · rw [List.append_nil, hs, hv]; rfl
  · refine World.keptBut_mono (fun x hx => ⟨hx, ?_⟩) (hx.below.frame (· ∈ p))
    exact Or.inr (by simpa using hx)
  · refine ⟨?_, [.lit (.bool true)] ++ ds, [], ([] ++ p) ++ [], ⟨[] ++ p, [], ?_, ?_, rfl, ?_, ?_⟩, ?_⟩
    · exact ok_one hr rfl (okWide_bool_mk hb _)
    · exact trodAll_append (again _ (fun _ _ => rfl)) (hres _ _ _)
    · rw [hv]; rfl
    · intro b off hp
      have hin : MemPlace.cell b off ∈ p := by simpa using hp
      rw [hx.frz b off (hlt _ hin)]
      exact hz b off hin
    · intro ha; cases ha
    · intro x hx _
      simpa using hx

/-- The weights of a datum are within reach. -/
def Reach (P : Program) (t : TypeId) (d : DataW H) : Prop := ∀ n ∈ d.weights P t, n ≤ reachBytes

theorem reach_of {ts : List TypeId} {ds : List (DataW H)} (h : (DataW.weightsEach P ts ds).all (· ≤ reachBytes) = true) {j : Nat} {t : TypeId} {d : DataW H} (ht : ts[j]? = some t) (hd : ds[j]? = some d) : Reach P t d := fun n hn => by
  have := List.all_eq_true.1 h n (DataW.weights_mem_each ht hd n hn)
  simpa using this

theorem weightsAll_mem {e : TypeId} {x : DataW H} {n : Nat} (hn : n ∈ x.weights P e) : ∀ {l : List (DataW H)}, x ∈ l → n ∈ DataW.weightsAll P e l
  | y :: l, h => by
    simp only [DataW.weightsAll, List.mem_append]
    cases h with
    | head => exact .inl hn
    | tail _ h => exact .inr (weightsAll_mem hn h)

theorem Reach.elem {t e : TypeId} {l s : List (DataW H)} (h : Reach P t (.slice l s)) (ht : P.underlying t = some (.slice e)) {x : DataW H} (hx : x ∈ l) : Reach P e x := fun n hn => h n (by
  simp only [DataW.weights, ht, List.mem_cons, List.mem_append]
  exact .inr (.inl (weightsAll_mem hn hx)))
theorem Reach.len {t e : TypeId} {l s : List (DataW H)} (h : Reach P t (.slice l s)) (ht : P.underlying t = some (.slice e)) : (l.length + s.length) * P.bytesOf e ≤ reachBytes := h _ (by
  simp [DataW.weights, ht])
end

/-- A choice for every index, as_ a list. -/
theorem list_of_lt {α : Type} {n : Nat} {p : Nat → α → Prop} (h : ∀ i, i < n → ∃ x, p i x) : ∃ l : List α, l.length = n ∧ ∀ i (hi : i < l.length), p i l[i] := by
  induction n with
  | zero => exact ⟨[], rfl, fun i hi => absurd hi (Nat.not_lt_zero _)⟩
  | succ n ih =>
    obtain ⟨l, hl, hp⟩ := ih (fun i hi => h i (Nat.lt_succ_of_lt hi))
    obtain ⟨x, hx⟩ := h n (Nat.lt_succ_self n)
    refine ⟨l ++ [x], by simp [hl], fun i hi => ?_⟩
    by_cases hlt : i < l.length
    · rw [List.getElem_append_left hlt]; exact hp i hlt
    · have : i = l.length := by simp at hi; omega
      subst this
      simp only [List.getElem_append_right (Nat.le_refl _), Nat.sub_self, List.getElem_cons_zero]
      rw [hl]; exact hx

section
variable {H : Type} {enc : TypeId × Value → H} {P : Program} {W : World}

theorem flat_length {α : Type} {l : List (List α)} {k : Nat} (h : ∀ x ∈ l, x.length = k) : l.flatten.length = l.length * k := by
  induction l with
  | nil => simp
  | cons x l ih =>
    rw [List.flatten_cons, List.length_append, ih (fun y hy => h y (List.mem_cons_of_mem _ hy)), h x (List.mem_cons_self ..), List.length_cons, Nat.add_mul, Nat.one_mul, Nat.add_comm]

theorem chunk_flat {l : List (List Value)} {k : Nat} (h : ∀ x ∈ l, x.length = k) : ∀ i (hi : i < l.length), chunk k l.flatten i = l[i] := by
  induction l with
  | nil => intro i hi; exact absurd hi (Nat.not_lt_zero _)
  | cons x l ih =>
    intro i hi
    have hx := h x (List.mem_cons_self ..)
    unfold chunk
    cases i with
    | zero => simp [hx]
    | succ i =>
      rw [List.flatten_cons, Nat.add_mul, Nat.one_mul, List.drop_append, List.drop_eq_nil_of_le (by omega), List.nil_append, hx, Nat.add_sub_cancel]
      exact ih (fun y hy => h y (List.mem_cons_of_mem _ hy)) i (by simpa using hi)

theorem flat_get {l : List (List Value)} {k : Nat} (h : ∀ x ∈ l, x.length = k) {j : Nat} {u : Value} (hu : l.flatten[j]? = some u) (hk : 0 < k) : ∃ x, l[j / k]? = some x ∧ x[j % k]? = some u := by
  induction l generalizing j with
  | nil => simp at hu
  | cons x l ih =>
    have hx := h x (List.mem_cons_self ..)
    rw [List.flatten_cons] at hu
    by_cases hj : j < k
    · rw [List.getElem?_append_left (by omega)] at hu
      exact ⟨x, by simp [Nat.div_eq_of_lt hj], by rw [Nat.mod_eq_of_lt hj]; exact hu⟩
    · rw [List.getElem?_append_right (by omega), hx] at hu
      obtain ⟨y, h1, h2⟩ := ih (fun y hy => h y (List.mem_cons_of_mem _ hy)) hu
      have hd : j / k = (j - k) / k + 1 := by rw [← Nat.sub_add_cancel (by omega : k ≤ j), Nat.add_div_right _ hk, Nat.add_sub_cancel]
      refine ⟨y, by rw [hd]; simpa using h1, ?_⟩
      rwa [Nat.mod_eq_sub_mod (by omega)]

/-- Elements that are formed: one cell each. -/
def OneC (cs : List Value) : Prop := ∀ u ∈ cs, u.oneCell' = true

/-- Bytes open. -/
theorem open_byte {e : TypeId} (he : P.underlying e = some (.int .u8)) (n : Nat) (cs' : List Value) (y : DataW H × List MemPlace) (h : DataW.trod enc P W 0 (fun _ => true) true n e cs' = some y) : ∃ c : UInt8, RByte W cs' c ∧ True ∧ OneC cs' := by
  obtain ⟨m, rfl, _, hw⟩ := DataW.trod_int he h
  have hb : 0 ≤ m ∧ m ≤ 255 := by simpa [Lit.wf, IntKind.min, IntKind.max, IntKind.signed, IntKind.bits] using hw
  refine ⟨UInt8.ofNat m.toNat, ?_, trivial, fun u hu => ?_⟩
  · unfold RByte
    have : (UInt8.ofNat m.toNat).toNat = m.toNat := by rw [UInt8.toNat_ofNat']; omega
    rw [this, Int.toNat_of_nonneg hb.1]
  · simp at hu; subst hu; rfl

end

end Go.Proofs.Ytfmhnplkpohogaa

namespace Go.Proofs.Ytfmhnplkpohogaa
open Go.RowKit

variable {S S' : Nat → Prop}

theorem RDk.clip {w : World} {v : Value} {d : Dk} (h : RDk S w v d) : RDk (Clip S w) w v d := h.subB fun _ hb hs => ⟨hs, hb⟩
theorem RDk.all {w : World} {v : Value} {d : Dk} (h : RDk S w v d) : RDk (fun _ => True) w v d := h.sub fun _ _ => trivial
end Go.Proofs.Ytfmhnplkpohogaa

namespace Go.Proofs.Ytfmhnplkpohogaa

theorem runs_of {d : Dk} (h1 : 1 ≤ d.sectors.length) (h2 : d.sectors.length ≤ 4096) (h3 : d.pending.length ≤ 4096) (h4 : -1 ≤ d.left) (h5 : d.left ≤ 65536) (h6 : d.stopped = false)
    (h7 : ∀ x ∈ d.pending, 0 ≤ x.1 ∧ x.1 < d.sectors.length ∧ x.2.length = 128) (h8 : ∀ x ∈ d.sectors, x.length = 128) : d.runs = true := by
  have hb : d.bad = false := by
    rw [Bool.eq_false_iff]
    unfold Dk.bad
    simp only [Bool.or_eq_true, decide_eq_true_eq, List.any_eq_true, badWrite, badSector, Bool.not_eq_true', decide_eq_false_iff_not, ne_eq]
    rintro ((((((h | h) | h) | h) | h) | ⟨x, hx, h⟩) | ⟨x, hx, h⟩) <;> try omega
    · have := h7 x hx; omega
    · exact h (h8 x hx)
  unfold Dk.runs Dk.check
  rw [hb, h6]; rfl

theorem runs_check {d : Dk} (h : d.runs = true) : d.check = 0 := by
  unfold Dk.runs at h; simp at h; exact h.1

theorem has_iff {d : Dk} {n : Int} : d.has n = true ↔ 0 ≤ n ∧ n < d.sectors.length := by unfold Dk.has; simp

theorem write_good {d : Dk} {n : Int} {b : List UInt8} (hr : d.runs = true) (hh : d.has n = true) (hb : b.length ≤ 128) (hp : d.pending.length < 4096) : d.write n b = (⟨d.sectors, d.pending ++ [(n, fill128 b)], d.left, d.stopped⟩, 0) := by
  unfold Dk.write
  rw [hr, hh, if_neg (by simp), if_neg (by omega), if_neg (by omega)]

end Go.Proofs.Ytfmhnplkpohogaa

namespace Go.Proofs.Ytfmhnplkpohogaa

/-! sectors, one after the other, as_ writes -/
def atL : Nat → List (List UInt8) → List (Int × List UInt8)
  | _, [] => []
  | k, s :: ss => (((k : Nat) : Int), s) :: atL (k + 1) ss
theorem atL_len : ∀ (k : Nat) (ss : List (List UInt8)), (atL k ss).length = ss.length
  | _, [] => rfl
  | k, s :: ss => by rw [atL, List.length_cons, List.length_cons, atL_len]
theorem atL_app : ∀ (k : Nat) (ss ts : List (List UInt8)), atL k (ss ++ ts) = atL k ss ++ atL (k + ss.length) ts
  | k, [], ts => by simp [atL]
  | k, s :: ss, ts => by rw [List.cons_append, atL, atL, List.cons_append, atL_app, List.length_cons, show k + 1 + ss.length = k + (ss.length + 1) by omega]
theorem atL_mem : ∀ (k : Nat) (ss : List (List UInt8)), ∀ x ∈ atL k ss, (k : Int) ≤ x.1 ∧ x.1 < (k + ss.length : Nat) ∧ x.2 ∈ ss
  | _, [], x, h => by cases h
  | k, s :: ss, x, h => by
    rcases List.mem_cons.1 h with rfl | h
    · refine ⟨by show (k : Int) ≤ (k : Nat); omega, by show ((k : Nat) : Int) < _; rw [List.length_cons]; omega, by simp⟩
    · obtain ⟨h1, h2, h3⟩ := atL_mem (k + 1) ss x h
      exact ⟨by omega, by rw [List.length_cons]; omega, by simp [h3]⟩
theorem set_app {α : Type} (a : List α) (x y : α) (c : List α) : (a ++ x :: c).set a.length y = a ++ y :: c := by
  rw [List.set_append_right _ _ (Nat.le_refl _), Nat.sub_self]; rfl
theorem perform_atL : ∀ (ss a b c : List (List UInt8)), b.length = ss.length → performL (a ++ b ++ c) (atL a.length ss) = a ++ ss ++ c
  | [], a, b, c, h => by
    have : b = [] := List.eq_nil_of_length_eq_zero h
    subst this; rfl
  | s :: ss, a, b, c, h => by
    rcases b with _ | ⟨y, b⟩
    · cases h
    · show performL ((a ++ y :: b ++ c).set ((a.length : Nat) : Int).toNat s) (atL (a.length + 1) ss) = _
      rw [show ((a.length : Nat) : Int).toNat = a.length from rfl, List.append_assoc, List.cons_append, set_app]
      have ih := perform_atL ss (a ++ [s]) b c (by simpa using h)
      rw [List.length_append, List.length_singleton] at ih
      simp only [List.append_assoc, List.singleton_append, List.cons_append, List.nil_append] at ih ⊢
      exact ih
theorem perform_at {L ss : List (List UInt8)} {k : Nat} (h : k + ss.length ≤ L.length) : performL L (atL k ss) = L.take k ++ ss ++ L.drop (k + ss.length) := by
  have e := perform_atL ss (L.take k) ((L.drop k).take ss.length) (L.drop (k + ss.length)) (by rw [List.length_take, List.length_drop]; omega)
  rw [List.length_take, Nat.min_eq_left (by omega), List.append_assoc] at e
  rw [show (L.drop k).take ss.length ++ L.drop (k + ss.length) = L.drop k by rw [← List.drop_drop]; exact List.take_append_drop _ _, List.take_append_drop] at e
  exact e

/-! pieces, one by one -/
theorem pieces_get (g : Nat) : ∀ {n k : Nat} {first : Bool} {b : List UInt8} {j : Nat}, j < n → (pieces g n k first b)[j]? = some (encL g (k + j) (kindOf (first && j == 0) (n == j + 1)) ((b.drop (112 * j)).take 112))
  | 0, _, _, _, _, h => absurd h (by omega)
  | n + 1, k, first, b, 0, _ => by
    rw [pieces, List.getElem?_cons_zero, Nat.mul_zero, List.drop_zero, Nat.add_zero]
    have : (n + 1 == 0 + 1) = (n == 0) := by cases n <;> rfl
    rw [this]
    cases first <;> rfl
  | n + 1, k, first, b, j + 1, h => by
    rw [pieces, List.getElem?_cons_succ, pieces_get g (by omega : j < n), List.drop_drop, show k + 1 + j = k + (j + 1) by omega, show 112 + 112 * j = 112 * (j + 1) by omega]
    have h1 : (n + 1 == j + 1 + 1) = (n == j + 1) := by simp
    rw [h1]
    cases first <;> rfl
theorem pieces_take (g : Nat) {n k : Nat} {b : List UInt8} {j : Nat} (h : j < n) : (pieces g n k true b).take (j + 1) = (pieces g n k true b).take j ++ [encL g (k + j) (kindOf (j == 0) (n == j + 1)) ((b.drop (112 * j)).take 112)] := by
  rw [List.take_add_one, pieces_get g h]
  rfl
theorem allSecs_take (g : Nat) : ∀ {rs : List (List UInt8)} {k i : Nat} {b : List UInt8}, rs[i]? = some b → allSecs g k (rs.take (i + 1)) = allSecs g k (rs.take i) ++ pieces g (secs b.length) (k + usedL (rs.take i)) true b
  | [], _, _, _, h => by cases h
  | r :: rs, k, 0, b, h => by
    have : r = b := by simpa using h
    subst this
    rw [List.take_succ_cons, List.take_zero, List.take_zero, allSecs, allSecs, allSecs, usedL_nil]; simp
  | r :: rs, k, i + 1, b, h => by
    have ih := allSecs_take g (rs := rs) (k := k + secs r.length) (i := i) (b := b) (by simpa using h)
    rw [List.take_succ_cons, List.take_succ_cons, allSecs, allSecs, ih, usedL_cons, List.append_assoc, Nat.add_assoc]

/-! what Sync answers -/
/-- the disk with some sectors written behind one another -/
def Dk.wr (d : Dk) (k : Nat) (ss : List (List UInt8)) : Dk := ⟨d.sectors, atL k ss, d.left, d.stopped⟩
def Lg.at (l : Lg) : Nat := usedL (l.recs.take l.synced.toNat)
def Lg.secs (l : Lg) (d : Dk) : List (List UInt8) := allSecs (maxG d.sectors + 1) l.at (l.recs.drop l.synced.toNat)
def Lg.sync (l : Lg) (d : Dk) : Lg × Dk × Int :=
  if l.check ≠ 0 then (Lg.zero, Dk.zero, l.check)
  else if d.check ≠ 0 then (Lg.zero, Dk.zero, d.check)
  else if d.stopped = false ∧ l.many ≠ (d.sectors.length : Nat) then (Lg.zero, Dk.zero, 1)
  else if openE d ≠ 0 then (Lg.zero, Dk.zero, openE d)
  else if recsOf d.sectors ≠ l.recs.take l.synced.toNat ∨ 4294967296 ≤ maxG d.sectors + 1 then (Lg.zero, Dk.zero, 390)
  else if l.synced = (l.recs.length : Nat) then (l, d, 0)
  else if (d.wr l.at (l.secs d)).sync.2 ≠ 0 then (Lg.zero, (d.wr l.at (l.secs d)).sync.1, (d.wr l.at (l.secs d)).sync.2)
  else (⟨l.many, l.recs, (l.recs.length : Nat)⟩, (d.wr l.at (l.secs d)).sync.1, 0)
section
variable {l : Lg} {d : Dk}
theorem sync_1 (h : l.check ≠ 0) : l.sync d = (Lg.zero, Dk.zero, l.check) := if_pos h
theorem sync_2 (h : l.check = 0) (h2 : d.check ≠ 0) : l.sync d = (Lg.zero, Dk.zero, d.check) := by rw [Lg.sync, if_neg (by omega), if_pos h2]
theorem sync_3 (h : l.check = 0) (h2 : d.check = 0) (h3 : d.stopped = false) (h4 : l.many ≠ (d.sectors.length : Nat)) : l.sync d = (Lg.zero, Dk.zero, 1) := by rw [Lg.sync, if_neg (by omega), if_neg (by omega), if_pos ⟨h3, h4⟩]
theorem sync_4 (h : l.check = 0) (h2 : d.check = 0) (h3 : d.stopped = true ∨ l.many = (d.sectors.length : Nat)) (h4 : openE d ≠ 0) : l.sync d = (Lg.zero, Dk.zero, openE d) := by
  rw [Lg.sync, if_neg (by omega), if_neg (by omega), if_neg (by rintro ⟨a, b⟩; rcases h3 with c | c; exact absurd (a.symm.trans c) (by decide); exact b c), if_pos h4]
theorem many_of (h : openE d = 0) : d.check = 0 ∧ d.stopped = false ∧ d.pending = [] := by
  unfold openE at h
  split at h
  · rename_i c; exact absurd h c
  · rename_i c
    split at h
    · cases h
    · rename_i c2
      split at h
      · cases h
      · rename_i c3
        exact ⟨by omega, by simpa using c2, List.eq_nil_of_length_eq_zero (by omega)⟩
theorem sync_5 (h : l.check = 0) (h3 : l.many = (d.sectors.length : Nat)) (h4 : openE d = 0) (h5 : recsOf d.sectors ≠ l.recs.take l.synced.toNat ∨ 4294967296 ≤ maxG d.sectors + 1) : l.sync d = (Lg.zero, Dk.zero, 390) := by
  rw [Lg.sync, if_neg (by omega), if_neg (by rw [(many_of h4).1]; omega), if_neg (by rintro ⟨a, b⟩; exact b h3), if_neg (by omega), if_pos h5]
/-- the way to the writes is free -/
structure Goes (l : Lg) (d : Dk) : Prop where
  lc : l.check = 0
  many : l.many = (d.sectors.length : Nat)
  op : openE d = 0
  rcs : recsOf d.sectors = l.recs.take l.synced.toNat
  gn : maxG d.sectors + 1 < 4294967296
theorem sync_6 (h : Goes l d) (h6 : l.synced = (l.recs.length : Nat)) : l.sync d = (l, d, 0) := by
  rw [Lg.sync, if_neg (by rw [h.lc]; omega), if_neg (by rw [(many_of h.op).1]; omega), if_neg (by rintro ⟨a, b⟩; exact b h.many), if_neg (by rw [h.op]; omega), if_neg (by rintro (a | a); exact a h.rcs; have := h.gn; omega), if_pos h6]
theorem sync_7 (h : Goes l d) (h6 : l.synced ≠ (l.recs.length : Nat)) (h7 : (d.wr l.at (l.secs d)).sync.2 ≠ 0) : l.sync d = (Lg.zero, (d.wr l.at (l.secs d)).sync.1, (d.wr l.at (l.secs d)).sync.2) := by
  rw [Lg.sync, if_neg (by rw [h.lc]; omega), if_neg (by rw [(many_of h.op).1]; omega), if_neg (by rintro ⟨a, b⟩; exact b h.many), if_neg (by rw [h.op]; omega), if_neg (by rintro (a | a); exact a h.rcs; have := h.gn; omega), if_neg h6, if_pos h7]
theorem sync_8 (h : Goes l d) (h6 : l.synced ≠ (l.recs.length : Nat)) (h7 : (d.wr l.at (l.secs d)).sync.2 = 0) : l.sync d = (⟨l.many, l.recs, (l.recs.length : Nat)⟩, (d.wr l.at (l.secs d)).sync.1, 0) := by
  rw [Lg.sync, if_neg (by rw [h.lc]; omega), if_neg (by rw [(many_of h.op).1]; omega), if_neg (by rintro ⟨a, b⟩; exact b h.many), if_neg (by rw [h.op]; omega), if_neg (by rintro (a | a); exact a h.rcs; have := h.gn; omega), if_neg h6, if_neg (by omega)]
theorem check_facts (h : l.check = 0) : 1 ≤ l.many ∧ l.many ≤ 4096 ∧ 0 ≤ l.synced ∧ l.synced ≤ (l.recs.length : Nat) ∧ usedW l.recs ≤ l.many := by
  unfold Lg.check at h
  split at h
  · cases h
  · rename_i c; omega
theorem check_used (h : l.check = 0) (hu : usedL l.recs < 9223372036854775808) : usedL l.recs ≤ l.many.toNat := by
  have := check_facts h
  rw [usedW_small hu] at this
  omega
theorem usedL_split (l : List (List UInt8)) (k : Nat) : usedL (l.take k) + usedL (l.drop k) = usedL l := by
  rw [← usedL_app, List.take_append_drop]
theorem usedL_take_le (l : List (List UInt8)) (k : Nat) : usedL (l.take k) ≤ usedL l := by have := usedL_split l k; omega
theorem Goes.room (h : Goes l d) (hu : usedL l.recs < 9223372036854775808) : l.at + usedL (l.recs.drop l.synced.toNat) ≤ d.sectors.length ∧ d.sectors.length ≤ 4096 := by
  have h1 := check_used h.lc hu
  have h2 := usedL_split l.recs l.synced.toNat
  have h3 := check_facts h.lc
  have h4 := h.many
  unfold Lg.at
  omega
theorem Goes.runs (h : Goes l d) : d.runs = true := by
  obtain ⟨h1, h2, -⟩ := many_of h.op
  exact runs_of_check h1 h2
theorem wr_nil (h : Goes l d) (k : Nat) : d = d.wr k [] := by
  have h3 := (many_of h.op).2.2
  rcases d with ⟨a, b, c, e⟩
  cases h3
  rfl
theorem wr_runs (h : Goes l d) {k : Nat} {ss : List (List UInt8)} (hk : k + ss.length ≤ d.sectors.length) (h128 : ∀ s ∈ ss, s.length = 128) : (d.wr k ss).runs = true := by
  obtain ⟨f1, f2, f3, f4, f5, f6, f7, f8⟩ := runs_facts h.runs
  refine runs_of f1 f2 (by show (atL k ss).length ≤ 4096; rw [atL_len]; omega) f4 f5 (many_of h.op).2.1 (fun x hx => ?_) f8
  obtain ⟨h1, h2, h3⟩ := atL_mem _ _ x hx
  exact ⟨by omega, by show x.1 < (d.sectors.length : Nat); omega, h128 _ h3⟩
theorem wr_write (h : Goes l d) {k : Nat} {ss : List (List UInt8)} {s : List UInt8} (hk : k + ss.length < d.sectors.length) (h128 : ∀ s ∈ ss, s.length = 128) (hs : s.length = 128) : (d.wr k ss).write (k + ss.length : Nat) s = (d.wr k (ss ++ [s]), 0) := by
  have h2 := (runs_facts h.runs).2.1
  rw [write_good (wr_runs h (by omega) h128) (has_iff.2 ⟨by omega, by show _ < (d.sectors.length : Int); omega⟩) (by omega) (by show (atL k ss).length < 4096; rw [atL_len]; omega)]
  have e : fill128 s = s := by unfold fill128; rw [hs]; simp
  rw [e]
  unfold Dk.wr
  rw [atL_app]
  rfl
end

end Go.Proofs.Ytfmhnplkpohogaa

namespace Go.Proofs.Ytfmhnplkpohogaa
open Go.RowKit

variable {S S' S2 : Nat → Prop}

/-- values that read as_ byte strings -/
def RVS (S : Nat → Prop) (w : World) (vs : List Value) (l : List (List UInt8)) : Prop := vs.length = l.length ∧ ∀ i (h : i < l.length) (h' : i < vs.length), RBs S w vs[i] l[i]
theorem RVS.of {w : World} {A : Option Addr} {n c : Nat} {l : List (List UInt8)} (h : RBss S w (.slice A n c) l) : n = l.length ∧ ∃ vs, Cel w 1 A n vs ∧ RVS S w vs l := by
  obtain ⟨hn, -, vs, hc, hv⟩ := RSl.cel h
  have hl : vs.length = l.length := by have := hc.1; omega
  refine ⟨hn, vs, hc, hl, fun i h1 h2 => ?_⟩
  obtain ⟨v, e, hr⟩ := hv i h1
  rw [chunk_one h2] at e
  injection e with e
  exact e ▸ hr
theorem RVS.keep {w w' : World} {vs : List Value} {l : List (List UInt8)} (h : RVS S w vs l) (hz : w.heap.size ≤ w'.heap.size) (hk : ∀ b, S b → b < w.heap.size → w'.heap[b]? = w.heap[b]?) : RVS S w' vs l := ⟨h.1, fun i h1 h2 => (h.2 i h1 h2).keep hz hk⟩
theorem RVS.sub {w : World} {vs : List Value} {l : List (List UInt8)} (h : RVS S w vs l) (hs : ∀ b, S b → S' b) : RVS S' w vs l := ⟨h.1, fun i h1 h2 => (h.2 i h1 h2).sub hs⟩
theorem RVS.snoc {w : World} {vs : List Value} {l : List (List UInt8)} {u : Value} {b : List UInt8} (h : RVS S w vs l) (hu : RBs S w u b) : RVS S w (vs ++ [u]) (l ++ [b]) := by
  refine ⟨by simp [h.1], fun i h1 h2 => ?_⟩
  by_cases hi : i < l.length
  · rw [List.getElem_append_left hi, List.getElem_append_left (by rw [h.1]; exact hi)]
    exact h.2 i hi _
  · simp only [List.length_append, List.length_singleton] at h1
    have e : i = l.length := by omega
    subst e
    rw [List.getElem_append_right (Nat.le_refl _), List.getElem_append_right (by rw [h.1]; exact Nat.le_refl _)]
    simp only [h.1, Nat.sub_self, List.getElem_cons_zero]
    exact hu
theorem RVS.one {w : World} {vs : List Value} {l : List (List UInt8)} (h : RVS S w vs l) : ∀ u ∈ vs, u.oneCell' = true := fun u hu => by
  obtain ⟨i, hi, rfl⟩ := List.getElem_of_mem hu
  exact RBs.one (h.2 i (by rw [← h.1]; exact hi) hi)
theorem RVS.bss {base : Nat} {e : TypeId} {v : Value} {n : Nat} {w : World} {vs : List Value} {l : List (List UInt8)} (h : RVS S w vs l) (hr : w.ownsRow base e 1 v n vs) : RBss (fun b => S b ∨ base ≤ b) w v l := by
  have hl := hr.1
  refine RSl.own hr (fun b hb => .inr hb) (by have := h.1; omega) h.one fun i hi => ?_
  have hi' : i < vs.length := by rw [h.1]; exact hi
  rw [chunk_one hi']
  exact ⟨_, rfl, (h.2 i hi hi').sub fun b hb => .inl hb⟩
section
variable {N : Nat} {m : List (Nat × Value)} {a : Act} {P : Program} {ops : Array Oper} {Q : Exit → Act → World → Prop} {i : Nat} {w : World} {o : Oper} {K : Act → World → Prop} {d : Nat}
/-- one more behind a full slice -/
theorem o_appS {t e : TypeId} {z : Value} {bytes : Nat} (E : El P t e z 1 bytes) (hF : Sl N m a) (ho : ops[i]? = some o) (hw : Region.wanted o (yielded ops a.tmps) = true) (hd : o.dst = some d) (hN : Nat.blt d N = true) {s x : Operand}
    (hop : o.op = .call { callee := .builtin .append, args := #[s, x], argTypes := #[t, t] }) {A : Option Addr} {n : Nat} (hs : a.eval s = .slice A n n) {g : Nat} {u : Value} (hx : a.eval x = .slice (some ⟨g, 0, none⟩) 1 1)
    {l : List (List UInt8)} {b : List UInt8} (hl : RBss S w (.slice A n n) l) {te : TypeId} (hg : Blk w g te [u]) (hu : RBs S w u b) (h63 : n + 1 ≤ 9223372036854775807) (hbytes : (n + 1) * bytes ≤ 140737488355328)
    (h : ∀ A' c' w' a', Sl N ((d, .slice A' (n + 1) c') :: m) a' → RBss (fun k => S k ∨ w.heap.size ≤ k) w' (.slice A' (n + 1) c') (l ++ [b]) → Ext w w' → K a' w') : wpOp P ops Q i K a w := by
  obtain ⟨hn, vs, hc, hv⟩ := RVS.of hl
  have hcx := hg.cel (k := 1) (m := 1) rfl (by simp [hu.one])
  obtain ⟨v', w', hrun, h1, h2, h3⟩ := run_app_full (P := P) (ty := o.type) (c := 1) E hc hcx (by omega) h63 hbytes
  obtain ⟨A', c', rfl, h4, h5⟩ := own_any h1
  refine op_wp ho hw ?_
  unfold Oper.wp execOp
  simp only [hop, resolve, invoke, builtin, Sem.run_bind, Sem.run_pure, Result.andThen_ok, List.map_toArray, List.map_cons, List.map_nil, hs, hx, hrun]
  exact h A' c' w' _ (by rw [hd]; exact hF.put hN) (RVS.bss ((hv.snoc hu).keep h2.size fun k hk hlt => h2.below.block k hlt) h1) h2
end

/-- what an operation on a log returns -/
def LogRet (S : Nat → Prop) (w : World) (x : Lg × Int) (e : Ending) (w' : World) : Prop := ∃ A c, e = .returned (.tuple #[.agg #[.int .i64 x.1.many, .slice A x.1.recs.length c, .int .i64 x.1.synced], .int .i64 x.2]) ∧ RBss (Fr S w) w' (.slice A x.1.recs.length c) x.1.recs ∧ Ext w w'
theorem log_fin {w w' : World} {x : Lg × Int} {m s n : Int} {R : List (List UInt8)} {A : Option Addr} {k c : Nat} (he : x = (⟨m, R, s⟩, n)) (h : RBss S' w' (.slice A k c) R) (hS : ∀ b, S' b → Fr S w b) (hx : Ext w w') : LogRet S w x (.returned (.tuple #[.agg #[.int .i64 m, .slice A k c, .int .i64 s], .int .i64 n])) w' := by
  subst he
  obtain ⟨rfl, -⟩ := RBss.at h
  exact ⟨A, c, rfl, h.sub hS, hx⟩
theorem log_err {w w' : World} {x : Lg × Int} {n : Int} (he : x = (Lg.zero, n)) (hx : Ext w w') : LogRet S w x (.returned (.tuple #[.agg #[.int .i64 0, .slice none 0 0, .int .i64 0], .int .i64 n])) w' :=
  log_fin (R := []) (S' := fun _ => False) he (RSl.nil _) (fun _ h => h.elim) hx
theorem RBss.full0 {w : World} {A : Option Addr} {n c : Nat} {l : List (List UInt8)} (h : RBss S w (.slice A n c) l) : RBss S w (.slice A n n) l := by
  obtain ⟨A', cap, xs, hv, hc, hl, hr, hs⟩ := h
  cases hv
  exact ⟨A, l.length, xs, rfl, ⟨Nat.le_refl _, by omega⟩, hl, hr, hs⟩
section
variable {P : Program} {ρ : Operand → Value} {W : World} {d : Option Tmp} {t : TypeId} {p : String} {af : Array Edge} {g : Option (Nat × Bool)} {x y : Operand}
theorem rn_max2N {s : TypeId} {a b : Nat} {u : TypeDesc} (hu : P.underlying s = some u) (hx : ρ x = .int .i64 (a : Nat)) (hy : ρ y = .int .i64 (b : Nat)) : (execOp ρ ⟨d, .call { callee := .builtin .max, args := #[x, y], argTypes := #[s, s] }, t, p, af, g⟩).run P W = .ok (.value (.int .i64 ((max a b : Nat) : Int))) W := by
  rw [show ((max a b : Nat) : Int) = max (a : Int) b by omega]
  exact rn_max2 hu hx hy
theorem rn_min2N {s : TypeId} {a b : Nat} {u : TypeDesc} (hu : P.underlying s = some u) (hx : ρ x = .int .i64 (a : Nat)) (hy : ρ y = .int .i64 (b : Nat)) : (execOp ρ ⟨d, .call { callee := .builtin .min, args := #[x, y], argTypes := #[s, s] }, t, p, af, g⟩).run P W = .ok (.value (.int .i64 ((min a b : Nat) : Int))) W := by
  rw [show ((min a b : Nat) : Int) = min (a : Int) b by omega]
  exact rn_min2 hu hx hy
end

end Go.Proofs.Ytfmhnplkpohogaa

namespace Go.Proofs.Ytfmhnplkpohogaa
open Go.RowKit

variable {S S' S2 : Nat → Prop}

theorem retCC1 {N : Nat} {m : List (Nat × Value)} {a : Act} {P : Program} {fn : Func} {R : Ending → World → Prop} {w : World} {t t2 u b b2 : Nat} {ty tt ty2 tt2 : TypeId} {cs cs2 : List Value} {v2 : Value} {td td2 : TypeDesc} (hF : Sl N m a) (hr : fn.results = #[.cell t ty, .cell t2 ty2, .tmp u])
    (hv : look m t = some (.pointer (some ⟨b, 0, none⟩))) (hv2 : look m t2 = some (.pointer (some ⟨b2, 0, none⟩))) (hu : look m u = some v2)
    (hB : Blk w b tt cs) (hty : P.underlying ty = some td) (hd : aggTy td = true) (hi : (P.info? ty).map (·.size) = some cs.length)
    (hB2 : Blk w b2 tt2 cs2) (hty2 : P.underlying ty2 = some td2) (hd2 : aggTy td2 = true) (hi2 : (P.info? ty2).map (·.size) = some cs2.length) (h : R (.returned (.tuple #[.agg cs.toArray, .agg cs2.toArray, v2])) w) : bodyPost P fn R .ret a w := by
  have h1 := hF.get hv
  have h3 := hF.get hv2
  have h2 := hF.get hu
  simp only [Act.eval] at h1 h2 h3
  refine bodyPost_ret ?_ hF.2.1 h
  have := run_loadVar_row (P := P) w b tt ty cs.toArray (0, 0) td hB hty (by cases td <;> simp_all [aggTy]) (by simpa using hi)
  have this2 := run_loadVar_row (P := P) w b2 tt2 ty2 cs2.toArray (0, 0) td2 hB2 hty2 (by cases td2 <;> simp_all [aggTy]) (by simpa using hi2)
  rw [Array.getD_eq_getD_getElem?] at h1 h2 h3
  simp [results, hr, h1, h2, h3, asAddr, this, this2]

/-! lists that are equal so far -/
theorem take_eqR {R T : List (List UInt8)} {k : Nat} {x y : List UInt8} (h : R.take k = T.take k) (hx : R[k]? = some x) (hy : T[k]? = some y) (e : x = y) : R.take (k + 1) = T.take (k + 1) := by
  rw [List.take_add_one, List.take_add_one, hx, hy, e, h]
theorem ne_atR {R T : List (List UInt8)} {k : Nat} {x y : List UInt8} (hx : R[k]? = some x) (hy : T[k]? = some y) (e : x ≠ y) : decide (R = T) = false := decide_eq_false fun h => e (by
  subst h
  rw [hx] at hy
  exact Option.some.inj hy)
theorem ne_lenR {R T : List (List UInt8)} (e : R.length ≠ T.length) : decide (R = T) = false := decide_eq_false fun h => e (by rw [h])
theorem eq_allR {R T : List (List UInt8)} {k : Nat} (h : R.take k = T.take k) (h1 : k = R.length) (h2 : R.length = T.length) : decide (R = T) = true := decide_eq_true (by
  subst h1
  rw [List.take_length, h2, List.take_length] at h
  exact h)
def Lg.same (a b : Lg) : Bool := decide (a.many = b.many ∧ a.synced = b.synced ∧ a.recs = b.recs)
section
variable {P : Program} {ρ : Operand → Value} {W : World} {d : Option Tmp} {t xt yt : TypeId} {p : String} {af : Array Edge} {g : Option (Nat × Bool)} {x y : Operand}
theorem b_or8 (a b : UInt8) : (binOp .or t (.int .u8 (a.toNat : Nat)) (.int .u8 (b.toNat : Nat))).run P W = .ok (.int .u8 ((a ||| b).toNat : Nat)) W := by
  show Sem.run P (pure (Value.int .u8 (IntKind.u8.wrap ((BitVec.ofInt IntKind.u8.bits ((a.toNat : Nat) : Int) ||| BitVec.ofInt IntKind.u8.bits ((b.toNat : Nat) : Int)).toNat : Nat)))) W = _
  rw [ofInt8, ofInt8, Sem.run_pure, wrap8n _ (BitVec.isLt _)]
  rfl
theorem rn_or8 {a b : UInt8} (hx : ρ x = .int .u8 (a.toNat : Nat)) (hy : ρ y = .int .u8 (b.toNat : Nat)) : (execOp ρ ⟨d, .binOp .or xt x y yt, t, p, af, g⟩).run P W = .ok (.value (.int .u8 ((a ||| b).toNat : Nat))) W := rn_bin hx hy guard_int (b_or8 a b)
end
theorem args0_2 {ρ : Operand → Value} {x0 x1 : Operand} {v0 v1 : Value} (h0 : ρ x0 = v0) (h1 : ρ x1 = v1) : #[] ++ #[x0, x1].map ρ = #[v0, v1] := by simp [h0, h1]

/-! what lies behind: x[l:], x[l:h] -/
def cutA (A : Option Addr) (c l sz : Nat) : Option Addr := if c = l then A else A.map (·.add (l * sz))
theorem cutA_eq {A : Option Addr} {b off c l sz : Nat} (hA : A = some ⟨b, off, none⟩) (h : c ≠ l) : cutA A c l sz = some ⟨b, off + l * sz, none⟩ := by
  rw [cutA, if_neg h, hA, Option.map_some, addr_add]
section
variable {P : Program} {ρ : Operand → Value} {W : World} {d : Option Tmp} {t : TypeId} {p : String} {af : Array Edge} {g : Option (Nat × Bool)}
theorem rn_cutLo {s e : TypeId} {x y : Operand} {A : Option Addr} {n c sz l : Nat} {k : IntKind} (hu : P.underlying s = some (.slice e)) (hi : (P.info? e).map (·.size) = some sz) (hx : ρ x = .slice A n c) (hy : ρ y = .int k (l : Int)) (h1 : l ≤ n) :
    (execOp ρ ⟨d, .slice s x (some y) none none, t, p, af, g⟩).run P W = .ok (.value (.slice (cutA A c l sz) (n - l) (c - l))) W := by
  have hb : (Instr.sliceBound (.int k (l : Int)) n .sliceB).run P W = .ok l W := by rw [bound_ok (by omega) (by omega)]; simp
  simp [execOp, Instr.sliceAt, Instr.slice, Instr.sliceBounds, run_underlying hu, hx, hy, hb, size_of hi, cutA]
end
theorem Fl.cutmid {w : World} {A : Option Addr} {n c l h : Nat} {y : List UInt8} (hf : Fl S w 1 (.slice A n c) n (byteVals y)) (h1 : l ≤ h) (h2 : h ≤ n) : Fl S w 1 (.slice (cutA A c l 1) (h - l) (c - l)) (h - l) (byteVals ((y.drop l).take (h - l))) := by
  have hy := hf.blen
  obtain ⟨A', c', e, hc, hcel, hs⟩ := hf
  cases e
  refine ⟨_, _, rfl, ⟨by omega, by omega⟩, ⟨by rw [byteVals_len rfl, List.length_take, List.length_drop]; omega, byteVals_one _, fun h0 => ?_⟩, fun h0 => ?_⟩
  · obtain ⟨b, off, ha, hb, hx⟩ := hcel.2.2 (by omega)
    refine ⟨b, off + l * 1, cutA_eq ha (by omega), hb, fun j u hu => ?_⟩
    rw [← byteVals_take, ← byteVals_drop, List.getElem?_take] at hu
    split at hu
    · rw [List.getElem?_drop] at hu
      rw [Nat.mul_one, Nat.add_assoc]
      exact hx _ u hu
    · cases hu
  · obtain ⟨b, off, ha, hb⟩ := hs (by omega)
    exact ⟨b, off + l * 1, cutA_eq ha (by omega), hb⟩
theorem Fl.cut {w : World} {A : Option Addr} {n c l : Nat} {y : List UInt8} (hf : Fl S w 1 (.slice A n c) n (byteVals y)) (h1 : l ≤ n) : Fl S w 1 (.slice (cutA A c l 1) (n - l) (c - l)) (n - l) (byteVals (y.drop l)) := by
  have hy := hf.blen
  have := hf.cutmid h1 (Nat.le_refl n)
  rwa [List.take_of_length_le (by rw [List.length_drop]; omega)] at this
theorem RBss.cut {w : World} {A : Option Addr} {n c j : Nat} {l : List (List UInt8)} (h : RBss S w (.slice A n c) l) (hj : j ≤ n) : RBss S w (.slice (cutA A c j 1) (n - j) (c - j)) (l.drop j) := by
  obtain ⟨A', cap, xs, hv, hc, ⟨hl1, hl2, hl3⟩, hr, hs⟩ := h
  cases hv
  have e1 : xs.length = l.length := by omega
  have hn : l.length - j = (l.drop j).length := by rw [List.length_drop]
  rw [hn]
  refine ⟨_, c - j, xs.drop j, rfl, ⟨by rw [List.length_drop]; omega, by omega⟩, ⟨by rw [List.length_drop, List.length_drop]; omega, fun u hu => hl2 u (List.mem_of_mem_drop hu), fun h0 => ?_⟩, fun i hi => ?_, fun h0 => ?_⟩
  · rw [List.length_drop] at h0
    obtain ⟨b', off', ha, hb, hx⟩ := hl3 (by omega)
    exact ⟨b', off' + j * 1, cutA_eq ha (by omega), hb, fun i u hu => by rw [Nat.mul_one, Nat.add_assoc]; exact hx _ u (by rw [List.getElem?_drop] at hu; exact hu)⟩
  · rw [List.length_drop] at hi
    obtain ⟨v, e, hr2⟩ := hr (j + i) (by omega)
    rw [chunk_one (by omega)] at e
    rw [chunk_one (by rw [List.length_drop]; omega)]
    injection e with e
    refine ⟨v, by rw [List.getElem_drop, e], ?_⟩
    rw [List.getElem_drop]
    exact hr2
  · rw [List.length_drop] at h0
    obtain ⟨b', off', ha, hS⟩ := hs (by omega)
    exact ⟨b', off' + j * 1, cutA_eq ha (by omega), hS⟩
theorem calls_conv {P : Program} {f : FuncId} {args : Array Value} {w : World} {d d' : Dk} {n n' : Int} (h : Calls P f args w (RDE S w d n)) (e1 : d = d') (e2 : n = n') : Calls P f args w (RDE S w d' n') := by
  subst e1 e2; exact h
theorem take_min {l : List UInt8} {n : Nat} (h : l.length = n) : l.take (min n 112) = l.take 112 := by
  subst h
  by_cases hn : l.length ≤ 112
  · rw [Nat.min_eq_left hn, List.take_length, List.take_of_length_le hn]
  · rw [Nat.min_eq_right (by omega)]
theorem drop_min {l : List UInt8} {n : Nat} (h : l.length = n) : l.drop (min n 112) = l.drop 112 := by
  subst h
  by_cases hn : l.length ≤ 112
  · rw [Nat.min_eq_left hn, List.drop_length, List.drop_eq_nil_of_le hn]
  · rw [Nat.min_eq_right (by omega)]
/-- what Sync returns -/
def SyncRet (S : Nat → Prop) (w : World) (x : Lg × Dk × Int) (e : Ending) (w' : World) : Prop := ∃ A c v, e = .returned (.tuple #[.agg #[.int .i64 x.1.many, .slice A x.1.recs.length c, .int .i64 x.1.synced], v, .int .i64 x.2.2]) ∧ RBss (Fr S w) w' (.slice A x.1.recs.length c) x.1.recs ∧ RDk (Fr S w) w' v x.2.1 ∧ Ext w w'
theorem lsync_fin {w w' : World} {x : Lg × Dk × Int} {m s n : Int} {R : List (List UInt8)} {A : Option Addr} {c : Nat} {v : Value} {d : Dk} (he : x = (⟨m, R, s⟩, d, n)) (h : RBss S' w' (.slice A R.length c) R) (hS : ∀ b, S' b → Fr S w b) (hd : RDk S2 w' v d) (hS2 : ∀ b, S2 b → Fr S w b) (hx : Ext w w') :
    SyncRet S w x (.returned (.tuple #[.agg #[.int .i64 m, .slice A R.length c, .int .i64 s], v, .int .i64 n])) w' := by
  subst he
  exact ⟨A, c, v, rfl, h.sub hS, hd.sub hS2, hx⟩
theorem lsync_err {w w' : World} {x : Lg × Dk × Int} {n : Int} (he : x = (Lg.zero, Dk.zero, n)) (hx : Ext w w') : SyncRet S w x (.returned (.tuple #[.agg #[.int .i64 0, .slice none 0 0, .int .i64 0], .agg #[.slice none 0 0, .slice none 0 0, .int .i64 0, .bool false], .int .i64 n])) w' :=
  lsync_fin (R := []) (S' := fun _ => False) (S2 := fun _ => False) he (RSl.nil _) (fun _ h => h.elim) (RDk.zero _) (fun _ h => h.elim) hx
theorem lsync_bad {w w' : World} {x : Lg × Dk × Int} {n : Int} {d : Dk} {v : Value} (he : x = (Lg.zero, d, n)) (hd : RDk S2 w' v d) (hS2 : ∀ b, S2 b → Fr S w b) (hx : Ext w w') : SyncRet S w x (.returned (.tuple #[.agg #[.int .i64 0, .slice none 0 0, .int .i64 0], v, .int .i64 n])) w' :=
  lsync_fin (R := []) (S' := fun _ => False) he (RSl.nil _) (fun _ h => h.elim) hd hS2 hx
/-! kinds of pieces -/
theorem kind_last {q : UInt8} {j n : Nat} (hq : q = kindOf (j == 0) false) (h : n = j + 1) : q ||| 2 = kindOf (j == 0) (n == j + 1) := by
  subst h
  rw [hq]
  simp only [beq_self_eq_true]
  cases (j == 0) <;> rfl
theorem kind_mid {q : UInt8} {j n : Nat} (hq : q = kindOf (j == 0) false) (h : n ≠ j + 1) : q = kindOf (j == 0) (n == j + 1) := by
  rw [hq, show (n == j + 1) = false by simpa using h]
theorem kind_next (j : Nat) : (0 : UInt8) = kindOf (j + 1 == 0) false := rfl

/-! the writes of Sync, piece by piece -/
theorem Fl.piece {w : World} {A : Option Addr} {c j : Nat} {x : List UInt8} (hf : Fl S w 1 (.slice A (x.length - 112 * j) c) (x.length - 112 * j) (byteVals (x.drop (112 * j)))) :
    Fl S w 1 (.slice (cutA A c (min (x.length - 112 * j) 112) 1) (x.length - 112 * (j + 1)) (c - min (x.length - 112 * j) 112)) (x.length - 112 * (j + 1)) (byteVals (x.drop (112 * (j + 1)))) := by
  have h := hf.cut (l := min (x.length - 112 * j) 112) (Nat.min_le_left _ _)
  rw [drop_min (by rw [List.length_drop]), List.drop_drop, show x.length - 112 * j - min (x.length - 112 * j) 112 = x.length - 112 * (j + 1) by omega, show 112 * j + 112 = 112 * (j + 1) by omega] at h
  exact h
theorem Fl.start {w : World} {A : Option Addr} {c : Nat} {x : List UInt8} (hf : Fl S w 1 (.slice A x.length c) x.length (byteVals x)) : Fl S w 1 (.slice A (x.length - 112 * 0) c) (x.length - 112 * 0) (byteVals (x.drop (112 * 0))) := hf
theorem ts_next {g a0 : Nat} {ss ts : List (List UInt8)} {x : List UInt8} {j : Nat} {q : UInt8} (hts : ts = ss ++ (pieces g (secs x.length) (a0 + ss.length) true x).take j) (hj : j < secs x.length) (hl : ts.length = ss.length + j) (hq : q = kindOf (j == 0) (secs x.length == j + 1)) :
    ts ++ [encL g (a0 + ts.length) q ((x.drop (112 * j)).take (min (x.length - 112 * j) 112))] = ss ++ (pieces g (secs x.length) (a0 + ss.length) true x).take (j + 1) := by
  rw [pieces_take g hj, ← List.append_assoc, ← hts, take_min (by rw [List.length_drop]), hq, hl, Nat.add_assoc]
theorem ts_len {g a0 : Nat} {ss ts : List (List UInt8)} {x : List UInt8} {j : Nat} (hts : ts = ss ++ (pieces g (secs x.length) (a0 + ss.length) true x).take j) (hj : j ≤ secs x.length) : ts.length = ss.length + j := by
  rw [hts, List.length_append, List.length_take, pieces_len]; omega
theorem ts_128 {g a0 : Nat} {ss ts : List (List UInt8)} {x : List UInt8} {j : Nat} (hts : ts = ss ++ (pieces g (secs x.length) (a0 + ss.length) true x).take j) (hs : ∀ z ∈ ss, z.length = 128) : ∀ z ∈ ts, z.length = 128 := fun z hz => by
  rw [hts] at hz
  rcases List.mem_append.1 hz with h | h
  · exact hs z h
  · exact pieces_128 _ _ _ _ _ z (List.mem_of_mem_take h)
theorem ss_next {g a0 : Nat} {ns ss ts : List (List UInt8)} {x : List UInt8} {k j : Nat} (hss : ss = allSecs g a0 (ns.take k)) (hx : ns[k]? = some x) (hts : ts = ss ++ (pieces g (secs x.length) (a0 + ss.length) true x).take j) (hj : j = secs x.length) : ts = allSecs g a0 (ns.take (k + 1)) := by
  have hl : ss.length = usedL (ns.take k) := by rw [hss, allSecs_len]
  rw [hts, hj, List.take_of_length_le (by rw [pieces_len]; omega), allSecs_take g hx, ← hl, ← hss]
theorem ss_room {g a0 : Nat} {ns ss : List (List UInt8)} {x : List UInt8} {k : Nat} (hss : ss = allSecs g a0 (ns.take k)) (hx : ns[k]? = some x) : ss.length + secs x.length ≤ usedL ns := by
  have h := usedL_split ns (k + 1)
  rw [List.take_add_one, hx, usedL_app] at h
  have e : usedL (some x).toList = secs x.length := by show usedL [x] = _; rw [usedL_cons, usedL_nil]; omega
  rw [hss, allSecs_len]; omega
theorem wr_all {m s : Int} {R : List (List UInt8)} {d xd : Dk} {g a0 k : Nat} {ns ss : List (List UInt8)} (ha0 : usedL (R.take s.toNat) = a0) (hns : R.drop s.toNat = ns) (hgg : g = maxG d.sectors + 1) (hss : ss = allSecs g a0 (ns.take k)) (hk : k = ns.length) (hxd : xd = d.wr a0 ss) :
    xd = d.wr (Lg.mk m R s).at ((Lg.mk m R s).secs d) := by
  subst ha0 hns hgg hk
  rw [hxd, hss, List.take_length]
  rfl

end Go.Proofs.Ytfmhnplkpohogaa

namespace Go.Proofs.Ytfmhnplkpohogaa
open Go.RowKit

variable {S S' : Nat → Prop}

set_option maxRecDepth 100000 in
set_option maxHeartbeats 1000000 in
theorem beq_any (A : Option Addr) (c : Nat) (a : List UInt8) (B : Option Addr) (e : Nat) (b : List UInt8) (w : World) (ha : Fl S w 1 (.slice A a.length c) a.length (byteVals a)) (hb : Fl S w 1 (.slice B b.length e) b.length (byteVals b)) :
  Calls Try.prog 43 #[.slice A a.length c, .slice B b.length e] w (fun e w' => e = .returned (.bool (decide (a = b))) ∧ Ext w w') := by
 have hca : Fl (Clip S w) w 1 (.slice A a.length c) a.length (byteVals a) := ha.clip
 have hcac := (Fl.cel hca).2.1
 have hcb : Fl (Clip S w) w 1 (.slice B b.length e) b.length (byteVals b) := hb.clip
 have hcbc := (Fl.cel hcb).2.1
 refine calls_enter (l := [(.slice A a.length c), (.slice B b.length e)]) Try.func43 rfl rfl rfl (fun aA hF => ?_)
 refine wp_seq_k (fun K1 hK1 => ?_)
 refine wp_region_lit ?_
 refine qv 0 (.bool false) hF rfl (rn_assign rfl) fun _ F3 => ?_; clear hF
 refine wpList_nil ?_
 refine hK1 _ _ ?_
 clear hK1
 refine wp_seq_k (fun K4 hK4 => ?_)
 refine wp_region_lit ?_
 refine qv 0 (.slice A a.length c) F3 rfl (rn_move (F3.get rfl)) fun _ F6 => ?_; clear F3
 refine qv 1 (strOf a) F6 rfl (rn_str (F6.get rfl) (Fl.rbs hca) Try.underlying35 Try.underlying5 Try.underlying9) fun _ F8 => ?_; clear F6
 refine qv 2 (.slice B b.length e) F8 rfl (rn_move (F8.get rfl)) fun _ F10 => ?_; clear F8
 refine qv 3 (strOf b) F10 rfl (rn_str (F10.get rfl) (Fl.rbs hcb) Try.underlying35 Try.underlying5 Try.underlying9) fun _ F12 => ?_; clear F10
 refine qv 4 (.bool (decide (a = b))) F12 rfl (rn_eqs (F12.get rfl) (F12.get rfl) rfl) fun _ F14 => ?_; clear F12
 refine qv 5 (.bool (decide (a = b))) F14 rfl (rn_assign (F14.get rfl)) fun _ F16 => ?_; clear F14
 refine wpList_nil ?_
 refine hK4 _ _ ?_
 clear hK4
 have F17 := (((F16.nil.c F16 4 rfl).c F16 1 rfl).c F16 0 rfl)
 clear F16
 refine wp_ret ?_
 refine ret1 F17 rfl rfl ?_
 exact ⟨rfl, (Ext.refl w)⟩

theorem beq_at {S2 : Nat → Prop} {v u : Value} {n m : Nat} (a b : List UInt8) (w : World) (ha : Fl S w 1 v n (byteVals a)) (hb : Fl S2 w 1 u m (byteVals b)) :
  Calls Try.prog 43 #[v, u] w (fun e w' => e = .returned (.bool (decide (a = b))) ∧ Ext w w') := by
 have h1 := ha.blen
 have h2 := hb.blen
 subst h1 h2
 obtain ⟨A, c, rfl, _⟩ := ha.form
 obtain ⟨B, e, rfl, _⟩ := hb.form
 exact beq_any (S := fun _ => True) A c a B e b w (ha.sub fun _ _ => trivial) (hb.sub fun _ _ => trivial)

set_option maxRecDepth 100000 in
set_option maxHeartbeats 1000000 in
theorem get_any (A : Option Addr) (c : Nat) (l : List UInt8) (w : World) (hf : Fl S w 1 (.slice A l.length c) l.length (byteVals l)) (h4 : l.length ≤ 4) :
  Calls Try.prog 41 #[.slice A l.length c] w (fun e w' => e = .returned (.int .u64 (num l : Nat)) ∧ Ext w w') := by
 have hc : Fl (Clip S w) w 1 (.slice A l.length c) l.length (byteVals l) := hf.clip
 have hcc := (Fl.cel hc).2.1
 refine calls_enter (l := [(.slice A l.length c)]) Try.func41 rfl rfl rfl (fun aA hF => ?_)
 refine wp_seq_k (fun K1 hK1 => ?_)
 refine wp_region_lit ?_
 refine qv 0 (.int .u64 0) hF rfl (rn_assign rfl) fun _ F3 => ?_; clear hF
 refine wpList_nil ?_
 refine hK1 _ _ ?_
 clear hK1
 refine wp_seq_k (fun K4 hK4 => ?_)
 refine wp_seq_k (fun K5 hK5 => ?_)
 refine wp_region_lit ?_
 refine qv 0 (.slice A l.length c) F3 rfl (rn_move (F3.get rfl)) fun _ F7 => ?_; clear F3
 refine qv 1 (.int .i64 (l.length : Nat)) F7 rfl (rn_len_slice Try.underlying35 (F7.get rfl)) fun _ F9 => ?_; clear F7
 refine qv 2 (.int .i64 0) F9 rfl (rn_move rfl) fun _ F11 => ?_; clear F9
 refine wpList_nil ?_
 refine hK5 _ _ ?_
 clear hK5
 refine wp_block ?_
 refine wp_loop (fun a' W => ∃ (k : Nat) (x : Nat), Sl 18 [(0, (.slice A l.length c)), (2, (.int .u64 (x : Nat))), (5, (.slice A l.length c)), (6, (.int .i64 (l.length : Nat))), (7, (.int .i64 (k : Nat)))] a' ∧ k ≤ l.length ∧ x = num (l.take k) ∧ Ext w W ∧ w.heap.size ≤ W.heap.size) (fun a' _ => l.length - (intOf (a'.eval (.tmp 7))).toNat) ⟨0, 0, (((((F11.nil.cons (q_get F11 (t := 7) rfl (by first | rfl | (congr 1; omega) | (congr 1; done)))).cons (q_get F11 (t := 6) rfl rfl)).cons (q_get F11 (t := 5) rfl rfl)).cons (q_get F11 (t := 2) rfl (by first | rfl | (congr 1; omega) | (congr 1; done)))).cons (q_get F11 (t := 0) rfl rfl)), (by omega), rfl, (Ext.refl w), (Nat.le_refl _)⟩ ?_
 clear F11
 rintro a12 w13 ⟨k, x, F14, hp16, hp17, hx15, hf18⟩
 have hL19 := F14
 have z20 := hx15.size
 have z21 := num_lt4 (l := l.take k) (by rw [List.length_take]; omega)
 have z22 := congrArg (256 * ·) hp17
 refine wp_seq_k (fun K23 hK23 => ?_)
 refine wp_region_lit ?_
 refine qv 0 (.bool (decide (((k : Nat) : Int) < ((l.length : Nat) : Int)))) F14 rfl (rn_lss (F14.get rfl) (F14.get rfl)) fun _ F25 => ?_; clear F14
 refine wpList_nil ?_
 refine hK23 _ _ ?_
 clear hK23
 refine wp_seq_k (fun K26 hK26 => ?_)
 by_cases hc27 : ((k : Nat) : Int) < ((l.length : Nat) : Int)
 ·skip
  refine wp_cond_true (c_true F25 rfl (decide_eq_true hc27)) ?_
  refine wp_skip ?_
  refine hK26 _ _ ?_
  clear hK26
  refine wp_seq_k (fun K28 hK28 => ?_)
  refine wp_block ?_
  refine wp_seq_k (fun K29 hK29 => ?_)
  refine wp_region_lit ?_
  have d33 := (hc.ext hx15)
  obtain ⟨b30, o31, hA32, -⟩ := Fl.at d33 (by omega)
  refine qv 0 (.pointer (some ⟨b30, o31 + k, none⟩)) F25 rfl (rn_index1 Try.underlying35 inf5 ((F25.get rfl).trans (by rw [hA32])) (F25.get rfl) (by omega : (0 : Int) ≤ (k : Nat)) (by omega : ((k : Nat) : Int) < ((l.length : Nat) : Int))) fun _ F35 => ?_; clear F25
  refine qv 1 (.int .u8 ((l.getD k 0).toNat : Nat)) F35 rfl (rn_load (isAgg_no Try.underlying5 rfl) (F35.get rfl) (Fl.cellAt d33 hA32 (byteVals_at (i := k) (by omega)))) fun _ F37 => ?_; clear F35
  refine qv 2 (.int .u8 ((l.getD k 0).toNat : Nat)) F37 rfl (rn_assign (F37.get rfl)) fun _ F39 => ?_; clear F37
  refine wpList_nil ?_
  refine hK29 _ _ ?_
  clear hK29
  refine wp_region_lit ?_
  refine qv 0 (.int .u64 (x : Nat)) F39 rfl (rn_move (F39.get rfl)) fun _ F41 => ?_; clear F39
  refine qv 1 (.int .u64 (x * 2 ^ 8 : Nat)) F41 rfl (rn_shlU (a := x) (n := 8) (F41.get rfl) rfl (by omega) (by omega)) fun _ F43 => ?_; clear F41
  refine qv 2 (.int .u8 ((l.getD k 0).toNat : Nat)) F43 rfl (rn_move (F43.get rfl)) fun _ F45 => ?_; clear F43
  have z46 := UInt8.toNat_lt (l.getD k 0)
  refine qv 3 (.int .u64 ((l.getD k 0).toNat : Nat)) F45 rfl (rn_convW Try.underlying5 Try.underlying68 (F45.get rfl) (cvn_64 ((l.getD k 0).toNat) (by omega))) fun _ F48 => ?_; clear F45
  refine qv 4 (.int .u64 ((x * 2 ^ 8) + ((l.getD k 0).toNat) : Nat)) F48 rfl (rn_orU (a := x * 2 ^ 8) (b := (l.getD k 0).toNat) (F48.get rfl) (F48.get rfl) (by omega) (by omega) (by omega)) fun _ F50 => ?_; clear F48
  refine qv 5 (.int .u64 ((x * 2 ^ 8) + ((l.getD k 0).toNat) : Nat)) F50 rfl (rn_assign (F50.get rfl)) fun _ F52 => ?_; clear F50
  refine wpList_nil ?_
  refine hK28 _ _ ?_
  clear hK28
  have F53 := (((((((F52.nil.c F52 4 rfl).c F52 8 rfl).c F52 7 rfl).c F52 6 rfl).c F52 5 rfl).c F52 2 rfl).c F52 0 rfl)
  clear F52
  refine wp_region_lit ?_
  refine qv 0 (.int .i64 (k + 1 : Nat)) F53 rfl (rn_addN (a := k) (b := 1) (F53.get rfl) rfl (by omega)) fun _ F55 => ?_; clear F53
  refine qv 1 (.int .i64 (k + 1 : Nat)) F55 rfl (rn_move (F55.get rfl)) fun _ F57 => ?_; clear F55
  refine wpList_nil ?_
  refine ⟨⟨(k + 1), (x * 2 ^ 8) + ((l.getD k 0).toNat), (((((F57.nil.cons (q_get F57 (t := 7) rfl (by first | rfl | (congr 1; omega) | (congr 1; done)))).cons (q_get F57 (t := 6) rfl rfl)).cons (q_get F57 (t := 5) rfl rfl)).cons (q_get F57 (t := 2) rfl (by first | rfl | (congr 1; omega) | (congr 1; done)))).cons (q_get F57 (t := 0) rfl rfl)), (by omega), (by rw [← take_snoc (by omega : k < l.length), num_app, ← hp17] <;> omega), ((Ext.refl w).trans hx15), (by omega)⟩, ?_⟩
  rw [F57.get (t := 7) rfl, hL19.get (t := 7) rfl]; simp [intOf] <;> omega
 ·skip
  refine wp_cond_false (c_false F25 rfl (decide_eq_false hc27)) ?_
  refine wp_exit ?_
  refine exit_then ?_
  refine exit_then ?_
  refine exit_here ?_
  refine hK4 _ _ ?_
  clear hK4
  refine wp_seq_k (fun K58 hK58 => ?_)
  refine wp_region_lit ?_
  refine qv 0 (.int .u64 (x : Nat)) F25 rfl (rn_move (F25.get rfl)) fun _ F60 => ?_; clear F25
  refine qv 1 (.int .u64 (x : Nat)) F60 rfl (rn_assign (F60.get rfl)) fun _ F62 => ?_; clear F60
  refine wpList_nil ?_
  refine hK58 _ _ ?_
  clear hK58
  refine wp_ret ?_
  refine ret1 F62 rfl rfl ?_
  have hk : k = l.length := by omega
  have hx := hp17
  rw [hk, List.take_length] at hx
  exact ⟨by rw [hx], ((Ext.refl w).trans hx15)⟩

theorem get_at {v : Value} {m : Nat} (l : List UInt8) (w : World) (hf : Fl S w 1 v m (byteVals l)) (h4 : m ≤ 4) :
  Calls Try.prog 41 #[v] w (fun e w' => e = .returned (.int .u64 (num l : Nat)) ∧ Ext w w') := by
 have hm := hf.blen
 subst hm
 obtain ⟨A, c, rfl, _⟩ := hf.form
 exact get_any A c l w hf h4

set_option maxRecDepth 100000 in
set_option maxHeartbeats 1000000 in
theorem sum9_any (A : Option Addr) (c : Nat) (l : List UInt8) (w : World) (hf : Fl S w 1 (.slice A l.length c) l.length (byteVals l)) :
  Calls Try.prog 65 #[.slice A l.length c] w (fun e w' => e = .returned (.int .u32 ((crc l).toNat : Nat)) ∧ Ext w w') := by
 have hc : Fl (Clip S w) w 1 (.slice A l.length c) l.length (byteVals l) := hf.clip
 have hcc := (Fl.cel hc).2.1
 refine calls_enter (l := [(.slice A l.length c)]) Try.func65 rfl rfl rfl (fun aA hF => ?_)
 refine wp_seq_k (fun K1 hK1 => ?_)
 refine wp_region_lit ?_
 refine qv 0 (.int .u32 0) hF rfl (rn_assign rfl) fun _ F3 => ?_; clear hF
 refine wpList_nil ?_
 refine hK1 _ _ ?_
 clear hK1
 refine wp_seq_k (fun K4 hK4 => ?_)
 refine wp_region_lit ?_
 refine qv 0 (.int .u32 4294967295) F3 rfl (rn_assign rfl) fun _ F6 => ?_; clear F3
 refine wpList_nil ?_
 refine hK4 _ _ ?_
 clear hK4
 refine wp_seq_k (fun K7 hK7 => ?_)
 refine wp_seq_k (fun K8 hK8 => ?_)
 refine wp_region_lit ?_
 refine qv 0 (.slice A l.length c) F6 rfl (rn_move (F6.get rfl)) fun _ F10 => ?_; clear F6
 refine qv 1 (.int .i64 (l.length : Nat)) F10 rfl (rn_len_slice Try.underlying35 (F10.get rfl)) fun _ F12 => ?_; clear F10
 refine qv 2 (.int .i64 0) F12 rfl (rn_move rfl) fun _ F14 => ?_; clear F12
 refine wpList_nil ?_
 refine hK8 _ _ ?_
 clear hK8
 refine wp_block ?_
 refine wp_loop (fun a' W => ∃ (k : Nat) (x : UInt32), Sl 28 [(0, (.slice A l.length c)), (2, (.int .u32 0)), (3, (.int .u32 (x.toNat : Nat))), (6, (.slice A l.length c)), (7, (.int .i64 (l.length : Nat))), (8, (.int .i64 (k : Nat)))] a' ∧ k ≤ l.length ∧ x = crcL (l.take k) ∧ Ext w W ∧ w.heap.size ≤ W.heap.size) (fun a' _ => l.length - (intOf (a'.eval (.tmp 8))).toNat) ⟨0, 4294967295, ((((((F14.nil.cons (q_get F14 (t := 8) rfl (by first | rfl | (congr 1; omega) | (congr 1; done)))).cons (q_get F14 (t := 7) rfl rfl)).cons (q_get F14 (t := 6) rfl rfl)).cons (q_get F14 (t := 3) rfl (by first | rfl | (congr 1; omega) | (congr 1; done)))).cons (q_get F14 (t := 2) rfl rfl)).cons (q_get F14 (t := 0) rfl rfl)), (by omega), rfl, (Ext.refl w), (Nat.le_refl _)⟩ ?_
 clear F14
 rintro a15 w16 ⟨k, x, F17, hp19, hp20, hx18, hf21⟩
 have hL22 := F17
 have z23 := hx18.size
 refine wp_seq_k (fun K24 hK24 => ?_)
 refine wp_region_lit ?_
 refine qv 0 (.bool (decide (((k : Nat) : Int) < ((l.length : Nat) : Int)))) F17 rfl (rn_lss (F17.get rfl) (F17.get rfl)) fun _ F26 => ?_; clear F17
 refine wpList_nil ?_
 refine hK24 _ _ ?_
 clear hK24
 refine wp_seq_k (fun K27 hK27 => ?_)
 by_cases hc28 : ((k : Nat) : Int) < ((l.length : Nat) : Int)
 ·skip
  refine wp_cond_true (c_true F26 rfl (decide_eq_true hc28)) ?_
  refine wp_skip ?_
  refine hK27 _ _ ?_
  clear hK27
  refine wp_seq_k (fun K29 hK29 => ?_)
  refine wp_block ?_
  refine wp_seq_k (fun K30 hK30 => ?_)
  refine wp_region_lit ?_
  have d34 := (hc.ext hx18)
  obtain ⟨b31, o32, hA33, -⟩ := Fl.at d34 (by omega)
  refine qv 0 (.pointer (some ⟨b31, o32 + k, none⟩)) F26 rfl (rn_index1 Try.underlying35 inf5 ((F26.get rfl).trans (by rw [hA33])) (F26.get rfl) (by omega : (0 : Int) ≤ (k : Nat)) (by omega : ((k : Nat) : Int) < ((l.length : Nat) : Int))) fun _ F36 => ?_; clear F26
  refine qv 1 (.int .u8 ((l.getD k 0).toNat : Nat)) F36 rfl (rn_load (isAgg_no Try.underlying5 rfl) (F36.get rfl) (Fl.cellAt d34 hA33 (byteVals_at (i := k) (by omega)))) fun _ F38 => ?_; clear F36
  refine qv 2 (.int .u8 ((l.getD k 0).toNat : Nat)) F38 rfl (rn_assign (F38.get rfl)) fun _ F40 => ?_; clear F38
  refine wpList_nil ?_
  refine hK30 _ _ ?_
  clear hK30
  refine wp_seq_k (fun K41 hK41 => ?_)
  refine wp_region_lit ?_
  refine qv 0 (.int .u32 (x.toNat : Nat)) F40 rfl (rn_move (F40.get rfl)) fun _ F43 => ?_; clear F40
  refine qv 1 (.int .u8 ((l.getD k 0).toNat : Nat)) F43 rfl (rn_move (F43.get rfl)) fun _ F45 => ?_; clear F43
  refine qv 2 (.int .u32 (((l.getD k 0).toUInt32).toNat : Nat)) F45 rfl (rn_convW Try.underlying5 Try.underlying91 (F45.get rfl) (cv8_32 (l.getD k 0))) fun _ F47 => ?_; clear F45
  refine qv 3 (.int .u32 ((x ^^^ ((l.getD k 0).toUInt32)).toNat : Nat)) F47 rfl (rn_xor32 (a := x) (b := ((l.getD k 0).toUInt32)) (F47.get rfl) (F47.get rfl)) fun _ F49 => ?_; clear F47
  refine qv 4 (.int .u32 ((x ^^^ ((l.getD k 0).toUInt32)).toNat : Nat)) F49 rfl (rn_assign (F49.get rfl)) fun _ F51 => ?_; clear F49
  refine wpList_nil ?_
  refine hK41 _ _ ?_
  clear hK41
  have F52 := ((((((((F51.nil.c F51 5 rfl).c F51 9 rfl).c F51 8 rfl).c F51 7 rfl).c F51 6 rfl).c F51 3 rfl).c F51 2 rfl).c F51 0 rfl)
  clear F51
  refine wp_seq_k (fun K53 hK53 => ?_)
  refine wp_region_lit ?_
  refine qv 0 (.int .i64 0) F52 rfl (rn_move rfl) fun _ F55 => ?_; clear F52
  refine wpList_nil ?_
  refine hK53 _ _ ?_
  clear hK53
  refine wp_block ?_
  refine wp_loop (fun a' W => ∃ (j : Nat) (y : UInt32), Sl 28 [(0, (.slice A l.length c)), (2, (.int .u32 0)), (3, (.int .u32 (y.toNat : Nat))), (6, (.slice A l.length c)), (7, (.int .i64 (l.length : Nat))), (8, (.int .i64 (k : Nat))), (9, (.bool (decide (((k : Nat) : Int) < ((l.length : Nat) : Int))))), (5, (.int .u8 ((l.getD k 0).toNat : Nat))), (16, (.int .i64 (j : Nat)))] a' ∧ j ≤ 8 ∧ y = crcTo ((x ^^^ ((l.getD k 0).toUInt32))) j ∧ Ext w W ∧ w16.heap.size ≤ W.heap.size) (fun a' _ => 8 - (intOf (a'.eval (.tmp 16))).toNat) ⟨0, (x ^^^ ((l.getD k 0).toUInt32)), (((((((((F55.nil.cons (q_get F55 (t := 16) rfl (by first | rfl | (congr 1; omega) | (congr 1; done)))).cons (q_get F55 (t := 5) rfl rfl)).cons (q_get F55 (t := 9) rfl rfl)).cons (q_get F55 (t := 8) rfl rfl)).cons (q_get F55 (t := 7) rfl rfl)).cons (q_get F55 (t := 6) rfl rfl)).cons (q_get F55 (t := 3) rfl (by first | rfl | (congr 1; omega) | (congr 1; done)))).cons (q_get F55 (t := 2) rfl rfl)).cons (q_get F55 (t := 0) rfl rfl)), (by omega), rfl, ((Ext.refl w).trans hx18), (Nat.le_refl _)⟩ ?_
  clear F55
  rintro a56 w57 ⟨j, y, F58, hp60, hp61, hx59, hf62⟩
  have hL63 := F58
  have z64 := hx59.size
  refine wp_seq_k (fun K65 hK65 => ?_)
  refine wp_region_lit ?_
  refine qv 0 (.bool (decide (((j : Nat) : Int) < (8 : Int)))) F58 rfl (rn_lss (F58.get rfl) rfl) fun _ F67 => ?_; clear F58
  refine wpList_nil ?_
  refine hK65 _ _ ?_
  clear hK65
  refine wp_seq_k (fun K68 hK68 => ?_)
  by_cases hc69 : ((j : Nat) : Int) < (8 : Int)
  ·skip
   refine wp_cond_true (c_true F67 rfl (decide_eq_true hc69)) ?_
   refine wp_skip ?_
   refine hK68 _ _ ?_
   clear hK68
   refine wp_seq_k (fun K70 hK70 => ?_)
   refine wp_block ?_
   refine wp_region_lit ?_
   refine qv 0 (.int .u32 (y.toNat : Nat)) F67 rfl (rn_move (F67.get rfl)) fun _ F72 => ?_; clear F67
   refine qv 1 (.int .u32 ((y >>> UInt32.ofNat 1).toNat : Nat)) F72 rfl (rn_shr32 (a := y) (n := 1) (F72.get rfl) rfl (by omega)) fun _ F74 => ?_; clear F72
   refine qv 2 (.int .u32 (y.toNat : Nat)) F74 rfl (rn_move (F74.get rfl)) fun _ F76 => ?_; clear F74
   refine qv 3 (.int .u32 ((y &&& (1 : UInt32)).toNat : Nat)) F76 rfl (rn_and32 (a := y) (b := (1 : UInt32)) (F76.get rfl) rfl) fun _ F78 => ?_; clear F76
   refine qv 4 (.int .u32 (((3988292384 : UInt32) * (y &&& (1 : UInt32))).toNat : Nat)) F78 rfl (rn_mul32 (a := (3988292384 : UInt32)) (b := (y &&& (1 : UInt32))) rfl (F78.get rfl)) fun _ F80 => ?_; clear F78
   refine qv 5 (.int .u32 (((y >>> UInt32.ofNat 1) ^^^ ((3988292384 : UInt32) * (y &&& (1 : UInt32)))).toNat : Nat)) F80 rfl (rn_xor32 (a := (y >>> UInt32.ofNat 1)) (b := ((3988292384 : UInt32) * (y &&& (1 : UInt32)))) (F80.get rfl) (F80.get rfl)) fun _ F82 => ?_; clear F80
   refine qv 6 (.int .u32 (((y >>> UInt32.ofNat 1) ^^^ ((3988292384 : UInt32) * (y &&& (1 : UInt32)))).toNat : Nat)) F82 rfl (rn_assign (F82.get rfl)) fun _ F84 => ?_; clear F82
   refine wpList_nil ?_
   refine hK70 _ _ ?_
   clear hK70
   have F85 := ((((((((((F84.nil.c F84 17 rfl).c F84 16 rfl).c F84 5 rfl).c F84 9 rfl).c F84 8 rfl).c F84 7 rfl).c F84 6 rfl).c F84 3 rfl).c F84 2 rfl).c F84 0 rfl)
   clear F84
   refine wp_region_lit ?_
   refine qv 0 (.int .i64 (j + 1 : Nat)) F85 rfl (rn_addN (a := j) (b := 1) (F85.get rfl) rfl (by omega)) fun _ F87 => ?_; clear F85
   refine qv 1 (.int .i64 (j + 1 : Nat)) F87 rfl (rn_move (F87.get rfl)) fun _ F89 => ?_; clear F87
   refine wpList_nil ?_
   refine ⟨⟨(j + 1), ((y >>> UInt32.ofNat 1) ^^^ ((3988292384 : UInt32) * (y &&& (1 : UInt32)))), (((((((((F89.nil.cons (q_get F89 (t := 16) rfl (by first | rfl | (congr 1; omega) | (congr 1; done)))).cons (q_get F89 (t := 5) rfl rfl)).cons (q_get F89 (t := 9) rfl rfl)).cons (q_get F89 (t := 8) rfl rfl)).cons (q_get F89 (t := 7) rfl rfl)).cons (q_get F89 (t := 6) rfl rfl)).cons (q_get F89 (t := 3) rfl (by first | rfl | (congr 1; omega) | (congr 1; done)))).cons (q_get F89 (t := 2) rfl rfl)).cons (q_get F89 (t := 0) rfl rfl)), (by omega), (by rw [hp61]; rfl), ((Ext.refl w).trans hx59), (by omega)⟩, ?_⟩
   rw [F89.get (t := 16) rfl, hL63.get (t := 16) rfl]; simp [intOf] <;> omega
  ·skip
   refine wp_cond_false (c_false F67 rfl (decide_eq_false hc69)) ?_
   refine wp_exit ?_
   refine exit_then ?_
   refine exit_then ?_
   refine exit_here ?_
   refine hK29 _ _ ?_
   clear hK29
   refine wp_region_lit ?_
   refine qv 0 (.int .i64 (k + 1 : Nat)) F67 rfl (rn_addN (a := k) (b := 1) (F67.get rfl) rfl (by omega)) fun _ F91 => ?_; clear F67
   refine qv 1 (.int .i64 (k + 1 : Nat)) F91 rfl (rn_move (F91.get rfl)) fun _ F93 => ?_; clear F91
   refine wpList_nil ?_
   refine ⟨⟨(k + 1), y, ((((((F93.nil.cons (q_get F93 (t := 8) rfl (by first | rfl | (congr 1; omega) | (congr 1; done)))).cons (q_get F93 (t := 7) rfl rfl)).cons (q_get F93 (t := 6) rfl rfl)).cons (q_get F93 (t := 3) rfl (by first | rfl | (congr 1; omega) | (congr 1; done)))).cons (q_get F93 (t := 2) rfl rfl)).cons (q_get F93 (t := 0) rfl rfl)), (by omega), (by rw [← take_snoc (by omega : k < l.length), crcL_app, ← hp20]; have := hp61; rwa [show j = 8 by omega] at this), ((Ext.refl w).trans hx59), (by omega)⟩, ?_⟩
   rw [F93.get (t := 8) rfl, hL22.get (t := 8) rfl]; simp [intOf] <;> omega
 ·skip
  refine wp_cond_false (c_false F26 rfl (decide_eq_false hc28)) ?_
  refine wp_exit ?_
  refine exit_then ?_
  refine exit_then ?_
  refine exit_here ?_
  refine hK7 _ _ ?_
  clear hK7
  refine wp_seq_k (fun K94 hK94 => ?_)
  refine wp_region_lit ?_
  refine qv 0 (.int .u32 (x.toNat : Nat)) F26 rfl (rn_move (F26.get rfl)) fun _ F96 => ?_; clear F26
  refine qv 1 (.int .u32 ((~~~ x).toNat : Nat)) F96 rfl (rn_not32 (a := x) (F96.get rfl)) fun _ F98 => ?_; clear F96
  refine qv 2 (.int .u32 ((~~~ x).toNat : Nat)) F98 rfl (rn_assign (F98.get rfl)) fun _ F100 => ?_; clear F98
  refine wpList_nil ?_
  refine hK94 _ _ ?_
  clear hK94
  refine wp_ret ?_
  refine ret1 F100 rfl rfl ?_
  have hk : k = l.length := by omega
  have hx := hp20
  rw [hk, List.take_length] at hx
  exact ⟨by rw [hx]; rfl, ((Ext.refl w).trans hx18)⟩

theorem sum_at9 {v : Value} {m : Nat} (l : List UInt8) (w : World) (hf : Fl S w 1 v m (byteVals l)) :
  Calls Try.prog 65 #[v] w (fun e w' => e = .returned (.int .u32 ((crc l).toNat : Nat)) ∧ Ext w w') := by
 have hm := hf.blen
 subst hm
 obtain ⟨A, c, rfl, _⟩ := hf.form
 exact sum9_any A c l w hf

end Go.Proofs.Ytfmhnplkpohogaa

namespace Go.Proofs.Ytfmhnplkpohogaa
open Go.RowKit

variable {S S' : Nat → Prop}

theorem El35 : El Try.prog 35 5 (.int .u8 0) 1 1 := ⟨Try.underlying35, by kernel_rfl, rfl, by decide⟩
theorem byteVals_mid (l : List UInt8) (j n : Nat) : ((byteVals l).drop (j * 1)).take (n * 1) = byteVals ((l.drop j).take n) := by rw [Nat.mul_one, Nat.mul_one, byteVals_drop, byteVals_take]
theorem copy_eq {la src : List UInt8} {off sl dl : Nat} (h : src.length = sl) (h2 : sl ≤ dl) : splice (byteVals la) off ((byteVals src).take (min sl dl)) = byteVals (la.take off ++ src ++ la.drop (off + sl)) := by
 subst h
 rw [Nat.min_eq_left h2, byteVals_take, List.take_length, splice, byteVals_take, byteVals_len rfl, byteVals_drop, byteVals_app, byteVals_app, List.append_assoc]
theorem copy_len {la src : List UInt8} {off : Nat} (h : off + src.length ≤ la.length) : (la.take off ++ src ++ la.drop (off + src.length)).length = la.length := by
 simp; omega
theorem Blk.celB {w : World} {g : Nat} {t : TypeId} {l : List UInt8} (h : Blk w g t (byteVals l)) {off n : Nat} (hl : off + n ≤ l.length) : Cel w 1 (some ⟨g, off, none⟩) n (byteVals ((l.drop off).take n)) := by
 refine ⟨by simp [byteVals]; omega, byteVals_one _, fun _ => ⟨g, off, rfl, h.lt, fun j u hu => ?_⟩⟩
 have hj := (List.getElem?_eq_some_iff.1 hu).1
 simp [byteVals] at hj
 rw [h.rule.1]
 simp only [byteVals, List.getElem?_map, List.getElem?_take, List.getElem?_drop] at hu ⊢
 rw [if_pos (by omega)] at hu
 exact hu
theorem Fl.midB {w : World} {g : Nat} {t : TypeId} {l : List UInt8} (h : Blk w g t (byteVals l)) {off n c : Nat} (hl : off + n ≤ l.length) (hc : n ≤ c ∧ c ≤ 9223372036854775807) (hS : S g) : Fl S w 1 (.slice (some ⟨g, off, none⟩) n c) n (byteVals ((l.drop off).take n)) :=
 ⟨_, c, rfl, hc, h.celB hl, fun _ => ⟨g, off, rfl, hS⟩⟩

set_option maxRecDepth 100000 in
set_option maxHeartbeats 1000000 in
theorem put_any (g : Nat) (l : List UInt8) (o m c n : Nat) (w : World) (hb : Blk w g 89 (byteVals l)) (hl : o + m ≤ l.length) (hm : m ≤ 8) (hn : n < 18446744073709551616) :
  Calls Try.prog 64 #[.slice (some ⟨g, o, none⟩) m c, .int .u64 (n : Nat)] w (fun e w' => e = .returned (.tuple #[]) ∧ Blk w' g 89 (byteVals (putL l o m n)) ∧ w.grownBy w' (some g)) := by
 have hlt := hb.lt
 refine calls_enter (l := [(.slice (some ⟨g, o, none⟩) m c), (.int .u64 (n : Nat))]) Try.func64 rfl rfl rfl (fun aA hF => ?_)
 refine wp_seq_k (fun K1 hK1 => ?_)
 refine wp_region_lit ?_
 refine qv 0 (.slice (some ⟨g, o, none⟩) m c) hF rfl (rn_move (hF.get rfl)) fun _ F3 => ?_; clear hF
 refine qv 1 (.int .i64 (m : Nat)) F3 rfl (rn_len_slice Try.underlying35 (F3.get rfl)) fun _ F5 => ?_; clear F3
 refine qv 2 (.int .i64 0) F5 rfl (rn_move rfl) fun _ F7 => ?_; clear F5
 refine wpList_nil ?_
 refine hK1 _ _ ?_
 clear hK1
 refine wp_block ?_
 refine wp_loop (fun a' W => ∃ (k : Nat) (x : List UInt8), Sl 23 [(0, (.slice (some ⟨g, o, none⟩) m c)), (1, (.int .u64 (n : Nat))), (6, (.int .i64 (m : Nat))), (7, (.int .i64 (k : Nat)))] a' ∧ k ≤ m ∧ x = putTo l o m n k ∧ w.grownBy W (some g) ∧ Blk W g 89 (byteVals x) ∧ w.heap.size ≤ W.heap.size) (fun a' _ => m - (intOf (a'.eval (.tmp 7))).toNat) ⟨0, l, ((((F7.nil.cons (q_get F7 (t := 7) rfl (by first | rfl | (congr 1; omega) | (congr 1; done)))).cons (q_get F7 (t := 6) rfl rfl)).cons (q_get F7 (t := 1) rfl rfl)).cons (q_get F7 (t := 0) rfl rfl)), (by omega), rfl, (grow_refl w g), hb, (Nat.le_refl _)⟩ ?_
 clear F7
 rintro a8 w9 ⟨k, x, F10, hp12, hp13, hx11, b14, hf15⟩
 have hL16 := F10
 have z17 := hx11.size
 have z18 := b14.lt
 have hxl : x.length = l.length := by rw [hp13]; exact putTo_len _ _ _ _ _
 refine wp_seq_k (fun K19 hK19 => ?_)
 refine wp_region_lit ?_
 refine qv 0 (.bool (decide (((k : Nat) : Int) < ((m : Nat) : Int)))) F10 rfl (rn_lss (F10.get rfl) (F10.get rfl)) fun _ F21 => ?_; clear F10
 refine wpList_nil ?_
 refine hK19 _ _ ?_
 clear hK19
 refine wp_seq_k (fun K22 hK22 => ?_)
 by_cases hc23 : ((k : Nat) : Int) < ((m : Nat) : Int)
 ·skip
  refine wp_cond_true (c_true F21 rfl (decide_eq_true hc23)) ?_
  refine wp_skip ?_
  refine hK22 _ _ ?_
  clear hK22
  refine wp_seq_k (fun K24 hK24 => ?_)
  refine wp_block ?_
  refine wp_seq_k (fun K25 hK25 => ?_)
  refine wp_region_lit ?_
  refine qv 0 (.int .i64 (k : Nat)) F21 rfl (rn_move (F21.get rfl)) fun _ F27 => ?_; clear F21
  refine qv 1 (.int .i64 (k : Nat)) F27 rfl (rn_assign (F27.get rfl)) fun _ F29 => ?_; clear F27
  refine wpList_nil ?_
  refine hK25 _ _ ?_
  clear hK25
  refine wp_region_lit ?_
  refine qv 0 (.slice (some ⟨g, o, none⟩) m c) F29 rfl (rn_move (F29.get rfl)) fun _ F31 => ?_; clear F29
  refine qv 1 (.slice (some ⟨g, o, none⟩) m c) F31 rfl (rn_move (F31.get rfl)) fun _ F33 => ?_; clear F31
  refine qv 2 (.int .i64 (m : Nat)) F33 rfl (rn_len_slice Try.underlying35 (F33.get rfl)) fun _ F35 => ?_; clear F33
  refine qv 3 (.int .i64 (m - 1 : Nat)) F35 rfl (rn_subN (a := m) (b := 1) (F35.get rfl) rfl (by omega) (by omega)) fun _ F37 => ?_; clear F35
  refine qv 4 (.int .i64 (k : Nat)) F37 rfl (rn_move (F37.get rfl)) fun _ F39 => ?_; clear F37
  refine qv 5 (.int .i64 ((m - 1) - k : Nat)) F39 rfl (rn_subN (a := m - 1) (b := k) (F39.get rfl) (F39.get rfl) (by omega) (by omega)) fun _ F41 => ?_; clear F39
  refine qv 6 (.int .u64 (n : Nat)) F41 rfl (rn_move (F41.get rfl)) fun _ F43 => ?_; clear F41
  refine qv 7 (.int .i64 (k : Nat)) F43 rfl (rn_move (F43.get rfl)) fun _ F45 => ?_; clear F43
  refine qv 8 (.int .i64 (8 * k : Nat)) F45 rfl (rn_mulN (a := 8) (b := k) rfl (F45.get rfl) (by omega)) fun _ F47 => ?_; clear F45
  refine qv 9 (.int .u64 (n / 2 ^ (8 * k) : Nat)) F47 rfl (rn_shrU (a := n) (n := 8 * k) (F47.get rfl) (F47.get rfl) (by omega)) fun _ F49 => ?_; clear F47
  refine qv 10 (.int .u8 ((UInt8.ofNat (n / 2 ^ (8 * k))).toNat : Nat)) F49 rfl (rn_convW Try.underlying68 Try.underlying5 (F49.get rfl) (cvi_8 (n / 2 ^ (8 * k)))) fun _ F51 => ?_; clear F49
  refine qv 11 (.pointer (some ⟨g, o + ((m - 1) - k), none⟩)) F51 rfl (rn_index1 Try.underlying35 inf5 (F51.get rfl) (F51.get rfl) (by omega : (0 : Int) ≤ ((m - 1) - k : Nat)) (by omega : (((m - 1) - k : Nat) : Int) < ((m : Nat) : Int))) fun _ F53 => ?_; clear F51
  refine wpl_op (i := 12) rfl (o_store1 (new := (byteVals (x.set (o + ((m - 1) - k)) (UInt8.ofNat (n / 2 ^ (8 * k)))))) F53 rfl rfl rfl rfl (F53.get rfl) (F53.get rfl) b14 inf5 (by rw [byteVals_len hxl]; omega) rfl (byteVals_set (by omega)) ?_)
  intro w54 b55 hg56; have z57 := hg56.size
  refine wpList_nil ?_
  refine hK24 _ _ ?_
  clear hK24
  have F58 := ((((((F53.nil.c F53 4 rfl).c F53 8 rfl).c F53 7 rfl).c F53 6 rfl).c F53 1 rfl).c F53 0 rfl)
  clear F53
  refine wp_region_lit ?_
  refine qv 0 (.int .i64 (k + 1 : Nat)) F58 rfl (rn_addN (a := k) (b := 1) (F58.get rfl) rfl (by omega)) fun _ F60 => ?_; clear F58
  refine qv 1 (.int .i64 (k + 1 : Nat)) F60 rfl (rn_move (F60.get rfl)) fun _ F62 => ?_; clear F60
  refine wpList_nil ?_
  refine ⟨⟨(k + 1), x.set (o + ((m - 1) - k)) (UInt8.ofNat (n / 2 ^ (8 * k))), ((((F62.nil.cons (q_get F62 (t := 7) rfl (by first | rfl | (congr 1; omega) | (congr 1; done)))).cons (q_get F62 (t := 6) rfl rfl)).cons (q_get F62 (t := 1) rfl rfl)).cons (q_get F62 (t := 0) rfl rfl)), (by omega), (by rw [putTo, ← hp13]), (grow_set (grow_set (grow_refl w g) hx11) hg56), b55, (by omega)⟩, ?_⟩
  rw [F62.get (t := 7) rfl, hL16.get (t := 7) rfl]; simp [intOf] <;> omega
 ·skip
  refine wp_cond_false (c_false F21 rfl (decide_eq_false hc23)) ?_
  refine wp_exit ?_
  refine exit_then ?_
  refine exit_then ?_
  refine exit_here ?_
  refine ret0 F21 rfl ?_
  have hk : k = m := by omega
  have hx := hp13
  rw [hk] at hx
  exact ⟨rfl, (by rw [putL, ← hx]; exact b14), (grow_set (grow_refl w g) hx11)⟩

set_option maxRecDepth 100000 in
set_option maxHeartbeats 1000000 in
theorem encode_any (n k : Nat) (q : UInt8) (A : Option Addr) (c : Nat) (b : List UInt8) (w : World) (hf : Fl S w 1 (.slice A b.length c) b.length (byteVals b)) (hq : b.length ≤ 112) (hn : n < 18446744073709551616) (hk : k < 65536) :
  Calls Try.prog 44 #[.int .u64 (n : Nat), .int .i64 (k : Nat), .int .u8 (q.toNat : Nat), .slice A b.length c] w (fun e w' => ∃ g, w.heap.size ≤ g ∧ e = .returned (.slice (some ⟨g, 0, none⟩) 128 128) ∧ Blk w' g 89 (byteVals (encL n k q b)) ∧ Ext w w') := by
 have hc : Fl (Clip S w) w 1 (.slice A b.length c) b.length (byteVals b) := hf.clip
 have hcc := (Fl.cel hc).2.1
 refine calls_enter (l := [(.int .u64 (n : Nat)), (.int .i64 (k : Nat)), (.int .u8 (q.toNat : Nat)), (.slice A b.length c)]) Try.func44 rfl rfl rfl (fun aA hF => ?_)
 refine wp_seq_k (fun K1 hK1 => ?_)
 refine wp_region_lit ?_
 refine qv 0 (.slice none 0 0) hF rfl (rn_assign rfl) fun _ F3 => ?_; clear hF
 refine wpList_nil ?_
 refine hK1 _ _ ?_
 clear hK1
 refine wp_seq_k (fun K4 hK4 => ?_)
 refine wp_region_lit ?_
 refine wpl_op (i := 0) rfl (o_new (fun g => (.pointer (some ⟨g, 0, none⟩))) (byteVals (List.replicate 128 0)) 89 F3 rfl rfl rfl rfl (by kernel_rfl) ?_)
 intro g5 w6 a11 F12 z9 z10 b7 hx8; clear F3
 refine wpList_nil ?_
 refine hK4 _ _ ?_
 clear hK4
 refine wp_seq_k (fun K13 hK13 => ?_)
 refine wp_region_lit ?_
 refine qv 0 (.slice (some ⟨g5, 0, none⟩) 4 128) F12 rfl (rn_arrHi Try.underlying89 inf5 (F12.get rfl) rfl (by omega : (0 : Int) ≤ 4) (by omega : (4 : Int) ≤ ((128 : Nat) : Int))) fun _ F15 => ?_; clear F12
 refine qv 1 (.int .u64 (n : Nat)) F15 rfl (rn_move (F15.get rfl)) fun _ F17 => ?_; clear F15
 refine wpl_op (i := 2) rfl (o_call F17 rfl rfl rfl rfl (rn_call (args2 (F17.get rfl) (F17.get rfl)) rfl (by kernel_rfl)) (put_any g5 (List.replicate 128 0) 0 4 128 n _ b7 (by have := (show List.length (List.replicate 128 (0 : UInt8)) = 128 from rfl); omega) (by omega) (by omega)) ?_)
 rintro _ w18 ⟨rfl, b19, hg20⟩
 refine ⟨_, rfl, ?_⟩; intro a21 F22; clear F17; have z23 := hg20.size
 refine wpList_nil ?_
 refine hK13 _ _ ?_
 clear hK13
 refine wp_seq_k (fun K24 hK24 => ?_)
 obtain ⟨v25, e26⟩ : ∃ z, z = putL (List.replicate 128 0) 0 4 n := ⟨_, rfl⟩
 have hl27 : v25.length = 128 := (congrArg List.length e26).trans ((putL_len _ _ _ _).trans (show List.length (List.replicate 128 (0 : UInt8)) = 128 from rfl))
 rw [← e26] at b19
 refine wp_region_lit ?_
 refine qv 0 (.slice (some ⟨g5, 8, none⟩) 2 120) F22 rfl (rn_arrLH (l := 8) (h := 10) Try.underlying89 inf5 (F22.get rfl) rfl rfl (by omega) (by omega) (by omega) rfl rfl rfl) fun _ F29 => ?_; clear F22
 refine qv 1 (.int .i64 (k : Nat)) F29 rfl (rn_move (F29.get rfl)) fun _ F31 => ?_; clear F29
 refine qv 2 (.int .u64 (k : Nat)) F31 rfl (rn_convW Try.underlying3 Try.underlying68 (F31.get rfl) (cvn_64 k (by omega))) fun _ F33 => ?_; clear F31
 refine wpl_op (i := 3) rfl (o_call F33 rfl rfl rfl rfl (rn_call (args2 (F33.get rfl) (F33.get rfl)) rfl (by kernel_rfl)) (put_any g5 v25 8 2 120 k _ b19 (by have := hl27; omega) (by omega) (by omega)) ?_)
 rintro _ w34 ⟨rfl, b35, hg36⟩
 refine ⟨_, rfl, ?_⟩; intro a37 F38; clear F33; have z39 := hg36.size
 refine wpList_nil ?_
 refine hK24 _ _ ?_
 clear hK24
 have F40 := ((((((F38.nil.c F38 9 rfl).c F38 8 rfl).c F38 3 rfl).c F38 2 rfl).c F38 1 rfl).c F38 0 rfl)
 clear F38
 refine wp_seq_k (fun K41 hK41 => ?_)
 obtain ⟨v42, e43⟩ : ∃ z, z = putL v25 8 2 k := ⟨_, rfl⟩
 have hl44 : v42.length = 128 := (congrArg List.length e43).trans ((putL_len _ _ _ _).trans hl27)
 rw [← e43] at b35
 refine wp_region_lit ?_
 refine qv 0 (.int .u8 (q.toNat : Nat)) F40 rfl (rn_move (F40.get rfl)) fun _ F46 => ?_; clear F40
 refine qv 1 (.slice A b.length c) F46 rfl (rn_move (F46.get rfl)) fun _ F48 => ?_; clear F46
 refine qv 2 (.int .i64 (b.length : Nat)) F48 rfl (rn_len_slice Try.underlying35 (F48.get rfl)) fun _ F50 => ?_; clear F48
 refine qv 3 (.int .u8 ((UInt8.ofNat b.length).toNat : Nat)) F50 rfl (rn_convW Try.underlying3 Try.underlying5 (F50.get rfl) (cvi_8 b.length)) fun _ F52 => ?_; clear F50
 refine qv 4 (.pointer (some ⟨g5, 0 + 10, none⟩)) F52 rfl (rn_indexArr Try.underlying89 inf5 (F52.get rfl) rfl (by omega : (0 : Int) ≤ 10) (by omega : (10 : Int) < ((128 : Nat) : Int))) fun _ F54 => ?_; clear F52
 refine wpl_op (i := 5) rfl (o_store1 (new := (byteVals (v42.set 10 q))) F54 rfl rfl rfl rfl (F54.get rfl) (F54.get rfl) b35 inf5 (by rw [byteVals_len hl44]; omega) rfl (byteVals_set (by omega)) ?_)
 intro w55 b56 hg57; have z58 := hg57.size
 refine qv 6 (.pointer (some ⟨g5, 0 + 11, none⟩)) F54 rfl (rn_indexArr Try.underlying89 inf5 (F54.get rfl) rfl (by omega : (0 : Int) ≤ 11) (by omega : (11 : Int) < ((128 : Nat) : Int))) fun _ F60 => ?_; clear F54
 refine wpl_op (i := 7) rfl (o_store1 (new := (byteVals ((v42.set 10 q).set 11 (UInt8.ofNat b.length)))) F60 rfl rfl rfl rfl (F60.get rfl) (F60.get rfl) b56 inf5 (by rw [byteVals_len (show List.length (v42.set 10 q) = _ from List.length_set.trans hl44)]; omega) rfl (byteVals_set (by omega)) ?_)
 intro w61 b62 hg63; have z64 := hg63.size
 refine wpList_nil ?_
 refine hK41 _ _ ?_
 clear hK41
 have F65 := ((((((F60.nil.c F60 9 rfl).c F60 8 rfl).c F60 3 rfl).c F60 2 rfl).c F60 1 rfl).c F60 0 rfl)
 clear F60
 refine wp_seq_k (fun K66 hK66 => ?_)
 obtain ⟨v67, e68⟩ : ∃ z, z = (v42.set 10 q) := ⟨_, rfl⟩
 have hl69 : v67.length = 128 := (congrArg List.length e68).trans (show List.length (v42.set 10 q) = _ from List.length_set.trans hl44)
 rw [← e68] at b62
 obtain ⟨v70, e71⟩ : ∃ z, z = v67.set 11 (UInt8.ofNat b.length) := ⟨_, rfl⟩
 have hl72 : v70.length = 128 := (congrArg List.length e71).trans (show List.length (v67.set 11 (UInt8.ofNat b.length)) = _ from List.length_set.trans hl69)
 rw [← e71] at b62
 refine wp_region_lit ?_
 refine qv 0 (.slice (some ⟨g5, 12, none⟩) 116 116) F65 rfl (rn_arrLo (l := 12) Try.underlying89 inf5 (F65.get rfl) rfl (by omega)) fun _ F74 => ?_; clear F65
 refine qv 1 (.slice A b.length c) F74 rfl (rn_move (F74.get rfl)) fun _ F76 => ?_; clear F74
 have d77 := (hc.pres ((((((Pres.refl w).ext hx8).grownN hg20 (fun h => by simp only [Clip] at h; omega)).grownN hg36 (fun h => by simp only [Clip] at h; omega)).grownN hg57 (fun h => by simp only [Clip] at h; omega)).grownN hg63 (fun h => by simp only [Clip] at h; omega)))
 refine wpl_op (i := 2) rfl (o_copy (new := byteVals (v70.take 12 ++ b ++ v70.drop (12 + b.length))) (n := b.length) (El35) F76 rfl rfl rfl rfl rfl (F76.get rfl) (F76.get rfl) b62 (Fl.cel d77).2.2 (by rw [byteVals_len hl72]; omega) (copy_eq rfl (by omega)) (by omega) ?_)
 intro w78 a81 F82 b79 hg80; clear F76; have z83 := hg80.size
 refine wpList_nil ?_
 refine hK66 _ _ ?_
 clear hK66
 refine wp_seq_k (fun K84 hK84 => ?_)
 obtain ⟨v85, e86⟩ : ∃ z, z = v70.take 12 ++ b ++ v70.drop (12 + b.length) := ⟨_, rfl⟩
 have hl87 : v85.length = 128 := (congrArg List.length e86).trans ((copy_len (by have := hl72; omega)).trans hl72)
 rw [← e86] at b79
 refine wp_region_lit ?_
 refine qv 0 (.slice (some ⟨g5, 124, none⟩) 4 4) F82 rfl (rn_arrLo (l := 124) Try.underlying89 inf5 (F82.get rfl) rfl (by omega)) fun _ F89 => ?_; clear F82
 refine qv 1 (.int .u64 (n : Nat)) F89 rfl (rn_move (F89.get rfl)) fun _ F91 => ?_; clear F89
 refine wpl_op (i := 2) rfl (o_call F91 rfl rfl rfl rfl (rn_call (args2 (F91.get rfl) (F91.get rfl)) rfl (by kernel_rfl)) (put_any g5 v85 124 4 4 n _ b79 (by have := hl87; omega) (by omega) (by omega)) ?_)
 rintro _ w92 ⟨rfl, b93, hg94⟩
 refine ⟨_, rfl, ?_⟩; intro a95 F96; clear F91; have z97 := hg94.size
 refine wpList_nil ?_
 refine hK84 _ _ ?_
 clear hK84
 have F98 := ((((((F96.nil.c F96 9 rfl).c F96 8 rfl).c F96 3 rfl).c F96 2 rfl).c F96 1 rfl).c F96 0 rfl)
 clear F96
 refine wp_seq_k (fun K99 hK99 => ?_)
 obtain ⟨v100, e101⟩ : ∃ z, z = putL v85 124 4 n := ⟨_, rfl⟩
 have hl102 : v100.length = 128 := (congrArg List.length e101).trans ((putL_len _ _ _ _).trans hl87)
 rw [← e101] at b93
 have hx104 : ∃ W, w92.drew = W ∧ Ext w92 W := ⟨_, rfl, (Ext.refl _).drew⟩
 obtain ⟨w103, e105, hx104⟩ := hx104
 have z106 := hx104.size
 refine any_start (fun W => Ext w103 W ∧ Blk W g5 89 (byteVals v100)) (fun i => i == 4) 5 #[false, false, false, false, false] rfl rfl rfl ?_
 rw [e105]; clear e105
 refine qp 0 (.slice (some ⟨g5, 4, none⟩) 4 124) F98 rfl rfl (fun W => (rn_arrLH (l := 4) (h := 8) Try.underlying89 inf5 (F98.get rfl) rfl rfl (by omega) (by omega) (by omega) rfl rfl rfl)) fun _ F108 => ?_; clear F98
 refine qp 1 (.slice (some ⟨g5, 8, none⟩) 116 120) F108 rfl rfl (fun W => (rn_arrLH (l := 8) (h := 124) Try.underlying89 inf5 (F108.get rfl) rfl rfl (by omega) (by omega) (by omega) rfl rfl rfl)) fun _ F110 => ?_; clear F108
 refine any_one (i := 2) (by decide +kernel) rfl ?_
 have b111 := (b93.ext hx104)
 have z112 := UInt32.toNat_lt (crc ((v100.drop 8).take 116))
 refine o_call F110 rfl rfl rfl rfl (rn_call (args1 (F110.get rfl)) rfl (by kernel_rfl)) (sum_at9 (v := (.slice (some ⟨g5, 8, none⟩) 116 120)) (m := 116) ((v100.drop 8).take 116) _ (Fl.midB (S := fun b => b = g5) b111 (by have := hl102; omega) (by omega) rfl)) ?_
 rintro _ w113 ⟨rfl, hx114⟩
 refine ⟨_, rfl, ?_⟩; intro a115 F116; clear F110; have z117 := hx114.size
 have b118 := (b111.ext hx114)
 refine ⟨fun _ _ => ⟨((Ext.refl w103).trans hx114), b118⟩, ?_⟩
 have hS119 : Ext w103 w113 ∧ Blk w113 g5 89 (byteVals v100) := ⟨((Ext.refl w103).trans hx114), b118⟩
 refine qs 3 (.int .u64 ((crc ((v100.drop 8).take 116)).toNat : Nat)) F116 rfl rfl hS119 (fun W hW => (rn_convW Try.underlying91 Try.underlying68 (F116.get rfl) (cvn_64 ((crc ((v100.drop 8).take 116)).toNat) (by omega)))) fun _ F121 => ?_; clear F116
 refine any_one (i := 4) (by decide +kernel) rfl ?_
 refine o_call F121 rfl rfl rfl rfl (rn_call (args2 (F121.get rfl) (F121.get rfl)) rfl (by kernel_rfl)) (put_any g5 v100 4 4 124 ((crc ((v100.drop 8).take 116)).toNat) _ b118 (by have := hl102; omega) (by omega) (by omega)) ?_
 rintro _ w122 ⟨rfl, b123, hg124⟩
 refine ⟨_, rfl, ?_⟩; intro a125 F126; clear F121; have z127 := hg124.size
 refine ⟨fun h => absurd h (by decide), ?_⟩
 refine any_nil (by decide +kernel) ?_
 refine hK99 _ _ ?_
 clear hK99
 have F128 := ((((((F126.nil.c F126 9 rfl).c F126 8 rfl).c F126 3 rfl).c F126 2 rfl).c F126 1 rfl).c F126 0 rfl)
 clear F126
 refine wp_seq_k (fun K129 hK129 => ?_)
 obtain ⟨v130, e131⟩ : ∃ z, z = putL v100 4 4 ((crc ((v100.drop 8).take 116)).toNat) := ⟨_, rfl⟩
 have hl132 : v130.length = 128 := (congrArg List.length e131).trans ((putL_len _ _ _ _).trans hl102)
 rw [← e131] at b123
 refine wp_region_lit ?_
 refine qv 0 (.slice (some ⟨g5, 0, none⟩) 128 128) F128 rfl (rn_arrAll Try.underlying89 inf5 (F128.get rfl)) fun _ F134 => ?_; clear F128
 refine qv 1 (.slice (some ⟨g5, 0, none⟩) 128 128) F134 rfl (rn_assign (F134.get rfl)) fun _ F136 => ?_; clear F134
 refine wpList_nil ?_
 refine hK129 _ _ ?_
 clear hK129
 refine wp_ret ?_
 refine ret1 F136 rfl rfl ?_
 have he := enc_eq (g := n) (k := k) (q := q) hq e26 e43 e68 e71 e86 e101 e131
 exact ⟨_, by omega, rfl, (by rw [← he]; exact b123), (((((((((((Ext.refl w).trans hx8).grownN hg20 (by omega)).grownN hg36 (by omega)).grownN hg57 (by omega)).grownN hg63 (by omega)).grownN hg80 (by omega)).grownN hg94 (by omega)).trans hx104).trans hx114).grownN hg124 (by omega))⟩

theorem encode_at {v : Value} {m : Nat} (n k : Nat) (q : UInt8) (b : List UInt8) (w : World) (hf : Fl S w 1 v m (byteVals b)) (hq : m ≤ 112) (hn : n < 18446744073709551616) (hk : k < 65536) :
  Calls Try.prog 44 #[.int .u64 (n : Nat), .int .i64 (k : Nat), .int .u8 (q.toNat : Nat), v] w (fun e w' => ∃ g, w.heap.size ≤ g ∧ e = .returned (.slice (some ⟨g, 0, none⟩) 128 128) ∧ Blk w' g 89 (byteVals (encL n k q b)) ∧ Ext w w') := by
 have h1 := hf.blen
 subst h1
 obtain ⟨A, c, rfl, _⟩ := hf.form
 exact encode_any n k q A c b w hf hq hn hk

end Go.Proofs.Ytfmhnplkpohogaa
