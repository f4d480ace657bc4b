/- Several texts in one: OpenJ, JrS2, OpenK. -/
import Derived.Test.YtfmhnplkpohogaaRows
import Derived.Test.YtfmhnplkpohogaaBvgD
import Derived.Lib.SmallJoins
import Derived.Test.YtfmhnplkpohogaaBvgF
import Derived.Test.YtfmhnplkpohogaaBvgI
set_option linter.unusedVariables false
set_option linter.unusedSimpArgs false
namespace Go.Proofs.Ytfmhnplkpohogaa
open Go.RowKit Go.ChangeShapes Go.WideShapes Go.ChangeAt Go.Deep Go.Joins
set_option maxRecDepth 100000

theorem sum_le {α : Type} {f : α → Nat} {g : Nat → Nat} : ∀ {l : List α} (k : Nat), (∀ i (hi : i < l.length), f l[i] ≤ g (k + i)) → (l.map f).sum ≤ ((List.range l.length).map fun i => g (k + i)).sum
  | [], _, _ => by simp
  | x :: l, k, h => by
    rw [List.length_cons, List.range_succ_eq_map, List.map_cons, List.sum_cons, List.map_cons, List.sum_cons, List.map_map]
    have h1 := h 0 (by simp)
    have h2 := sum_le (f := f) (g := g) (l := l) (k + 1) fun i hi => by
      have := h (i + 1) (by simpa using hi)
      rw [List.getElem_cons_succ] at this
      rwa [Nat.add_assoc, Nat.add_comm 1 i]
    have e : ((fun i => g (k + i)) ∘ Nat.succ) = fun i => g (k + 1 + i) := by
      funext i; show g (k + (i + 1)) = _; rw [Nat.add_assoc, Nat.add_comm 1 i]
    rw [e]
    simp only [List.getElem_cons_zero] at h1
    omega

section
variable {H : Type} {enc : TypeId × Value → H} {P : Program} {W : World}

/-- A slice opens: each element by what its own reading gives. -/
theorem open_rslU {α : Type} {β : α → Nat} {bulk : DataW H → Nat} {k : Nat} {R : World → List Value → α → Prop} {B : α → Prop} {t e : TypeId} {fuel : Nat} {cs : List Value} {x : DataW H × List MemPlace}
    (ht : P.underlying t = some (.slice e)) (hk : P.cellsOf e = k) (hk0 : 0 < k) (h : DataW.trod enc P W 0 (fun _ => true) true fuel t cs = some x) (hreach : Reach P t x.1)
    (hR : ∀ n cs' y, DataW.trod enc P W 0 (fun _ => true) true n e cs' = some y → Reach P e y.1 → ∃ a, R W cs' a ∧ B a ∧ OneC cs' ∧ β a ≤ bulk y.1) :
    ∃ v l, cs = [v] ∧ RSl (Old W) k R W v l ∧ (∀ a ∈ l, B a) ∧ l.length * P.bytesOf e ≤ reachBytes ∧ v.oneCell' = true ∧ (x.1 = .nil ∧ l = [] ∨ ∃ es sp, x.1 = .slice es sp ∧ (l.map β).sum ≤ (es.map bulk).sum ∧ l.length = es.length) := by
  rcases open_slice ht h with ⟨rfl, rfl⟩ | ⟨a, len, cap, m, n, D, Pl, rfl, hb, hlc, hcm, hm, rfl, hi⟩
  · exact ⟨_, [], rfl, RSl.nil _, (fun a ha => by cases ha), (by simp), rfl, .inl ⟨rfl, rfl⟩⟩
  · simp only [if_true] at hm
    subst hm
    rw [hk] at hi
    have hsome : ∀ i, i < len → ∃ ya : List Value × α, (W.cells? 0 (a.add (i * k)) k = some ya.1 ∧ R W ya.1 ya.2) ∧ B ya.2 ∧ OneC ya.1 ∧ β ya.2 ≤ bulk (D i) := fun i hil => by
      obtain ⟨cs', hc, htr⟩ := hi i (by omega)
      obtain ⟨y, h1, h2, h3, h4⟩ := hR n cs' _ htr (hreach.elem ht (by simp only [List.mem_map]; exact ⟨i, List.mem_range.2 hil, rfl⟩))
      exact ⟨(cs', y), ⟨hc, h1⟩, h2, h3, h4⟩
    obtain ⟨L, hL, hp⟩ := list_of_lt hsome
    have hlen : ∀ y ∈ L.map (·.1), y.length = k := fun y hy => by
      obtain ⟨z, hz, rfl⟩ := List.mem_map.1 hy
      obtain ⟨i, hil, rfl⟩ := List.getElem_of_mem hz
      exact (World.cells?_some (hp i hil).1.1).2.1
    have hcell : ∀ i (hil : i < L.length) (j : Nat) (u : Value), (L[i].1)[j]? = some u → W.cell? (a.add (i * k + j)) = some u := fun i hil j u hu => by
      obtain ⟨_, hl2, hat⟩ := World.cells?_some (hp i hil).1.1
      have hjk : j < k := by rw [← hl2]; exact (List.getElem?_eq_some_iff.1 hu).1
      have := hat j hjk
      rw [hu, add_add] at this
      exact this
    have hLl : (L.map (·.1)).length = L.length := List.length_map ..
    refine ⟨_, L.map (·.2), rfl, ⟨some a, m, (L.map (·.1)).flatten, by rw [List.length_map, hL], ⟨by rw [List.length_map]; omega, by simpa [maxLen] using hcm⟩, ⟨?_, ?_, fun h0 => ?_⟩, fun i hil => ?_, fun h0 => ?_⟩, fun y hy => ?_, ?_, rfl, .inr ⟨_, _, rfl, ?_, by rw [List.length_map, hL, List.length_map, List.length_range]⟩⟩
    · rw [flat_length hlen, hLl, List.length_map]
    · intro u hu
      obtain ⟨y, hy, hu⟩ := List.mem_flatten.1 hu
      obtain ⟨z, hz, rfl⟩ := List.mem_map.1 hy
      obtain ⟨i, hil, rfl⟩ := List.getElem_of_mem hz
      exact (hp i hil).2.2.1 u hu
    · rw [List.length_map] at h0
      have hc0 : ∃ u, W.cell? (a.add 0) = some u := by
        have h1 : (L[0].1)[0]? = some ((L[0].1)[0]'(by rw [hlen _ (List.mem_map.2 ⟨_, List.getElem_mem h0, rfl⟩)]; exact hk0)) := List.getElem?_eq_getElem _
        have := hcell 0 h0 0 _ h1
        rw [Nat.zero_mul, Nat.zero_add] at this
        exact ⟨_, this⟩
      obtain ⟨u0, hu0⟩ := hc0
      have ha0 : a.add 0 = a := by simp [Addr.add]
      rw [ha0] at hu0
      obtain ⟨b, off, spot⟩ := a
      have hspot : spot = none := World.cell?_spot hu0
      subst hspot
      refine ⟨b, off, rfl, World.block_lt_of_cell? W _ hu0, fun j u hu => ?_⟩
      obtain ⟨y, h1, h2⟩ := flat_get hlen hu hk0
      rw [List.getElem?_map] at h1
      obtain ⟨z, h3, rfl⟩ := Option.map_eq_some_iff.1 h1
      obtain ⟨hil, rfl⟩ := List.getElem?_eq_some_iff.1 h3
      have := hcell _ hil _ _ h2
      rw [Nat.mul_comm, Nat.div_add_mod] at this
      rw [← this]
      congr 1
      unfold Addr.add
      split <;> simp_all
    · rw [List.length_map] at hil
      rw [chunk_flat hlen i (by simpa using hil)]
      simp only [List.getElem_map]
      exact (hp i hil).1.2
    · rw [List.length_map] at h0
      have h1 : (L[0].1)[0]? = some ((L[0].1)[0]'(by rw [hlen _ (List.mem_map.2 ⟨_, List.getElem_mem h0, rfl⟩)]; exact hk0)) := List.getElem?_eq_getElem _
      have hu0 := hcell 0 h0 0 _ h1
      rw [Nat.zero_mul, Nat.zero_add] at hu0
      have ha0 : a.add 0 = a := by simp [Addr.add]
      rw [ha0] at hu0
      obtain ⟨b, off, spot⟩ := a
      have hspot : spot = none := World.cell?_spot hu0
      subst hspot
      exact ⟨b, off, rfl, World.block_lt_of_cell? W _ hu0⟩
    · obtain ⟨z, hz, rfl⟩ := List.mem_map.1 hy
      obtain ⟨i, hil, rfl⟩ := List.getElem_of_mem hz
      exact (hp i hil).2.1
    · have := hreach.len ht
      simp only [List.length_map, List.length_range] at this
      rw [List.length_map, hL]
      exact Nat.le_trans (Nat.mul_le_mul_right _ (Nat.le_add_right _ _)) this
    · have h0 := sum_le (l := L) (f := fun z => β z.2) (g := fun i => bulk (D i)) 0 (fun i hi => by rw [Nat.zero_add]; exact (hp i hi).2.2.2)
      rw [List.map_map, List.map_map]
      rw [hL] at h0
      simpa [Function.comp_def] using h0

end
section
variable {H : Type} {enc : TypeId × Value → H} {W : World}
theorem bulkAll_sum : ∀ l : List (DataW H), Rows.uptoBulkAll l = (l.map Rows.uptoBulk).sum
  | [] => by simp [Rows.uptoBulkAll]
  | x :: l => by rw [Rows.uptoBulkAll, bulkAll_sum l, List.map_cons, List.sum_cons]
theorem bulk_one (d : DataW H) : 1 ≤ Rows.uptoBulk d := by
  cases d with
  | lit l => cases l <;> simp [Rows.uptoBulk]
  | nil => simp [Rows.uptoBulk]
  | ptr d => simp [Rows.uptoBulk]
  | slice elems spare => simp [Rows.uptoBulk]
  | agg parts => simp [Rows.uptoBulk]
  | iface t d => simp [Rows.uptoBulk]
  | map entries => simp [Rows.uptoBulk]
  | held h => simp [Rows.uptoBulk]
theorem sum_const : ∀ (es : List (DataW H)), (es.map fun _ => 1).sum = es.length
  | [] => rfl
  | x :: l => by rw [List.map_cons, List.sum_cons, sum_const l, List.length_cons]; omega
theorem sum_mono {f g : DataW H → Nat} (h : ∀ d, f d ≤ g d) : ∀ (es : List (DataW H)), (es.map f).sum ≤ (es.map g).sum
  | [] => Nat.le_refl _
  | x :: l => by
    have := sum_mono h l
    have := h x
    rw [List.map_cons, List.sum_cons, List.map_cons, List.sum_cons]; omega
theorem open_bsU (n : Nat) (cs' : List Value) (y : DataW H × List MemPlace) (h : DataW.trod enc Try.prog W 0 (fun _ => true) true n 35 cs' = some y) (hr : Reach Try.prog 35 y.1) :
    ∃ l : List UInt8, RB1 (Old W) W cs' l ∧ l.length ≤ 140737488355328 ∧ OneC cs' ∧ l.length + 1 ≤ Rows.uptoBulk y.1 := by
  obtain ⟨v, l, rfl, h1, _, h4, h5, h6⟩ := open_rslU (k := 1) (R := RByte) (B := fun _ => True) (β := fun _ => 1) (bulk := fun _ => 1) Try.underlying35 (by kernel_rfl) (by omega) h hr (fun n cs' y hy _ => by
    obtain ⟨c, g1, g2, g3⟩ := open_byte Try.underlying5 n cs' y hy
    exact ⟨c, g1, g2, g3, Nat.le_refl _⟩)
  rw [show Try.prog.bytesOf 5 = 1 by kernel_rfl, Nat.mul_one] at h4
  have h4' : l.length ≤ 140737488351232 := h4
  refine ⟨l, ⟨v, rfl, h1⟩, by omega, fun u hu => by simp at hu; subst hu; exact h5, ?_⟩
  rcases h6 with ⟨e, rfl⟩ | ⟨es, sp, e, h7, h8⟩
  · rw [List.length_nil]; exact bulk_one _
  · rw [e]
    have h9 := sum_mono (f := fun _ => 1) (g := Rows.uptoBulk) bulk_one es
    rw [sum_const] at h9
    simp only [Rows.uptoBulk]
    rw [bulkAll_sum es]; omega
/-- a list of byte strings -/
theorem open_lst (n : Nat) {v : Value} {y : DataW H × List MemPlace} (h : DataW.trod enc Try.prog W 0 (fun _ => true) true n 22 [v] = some y) (hr : Reach Try.prog 22 y.1) :
    ∃ A c R, v = .slice A (List.length R) c ∧ RBss (Old W) W (.slice A (List.length R) c) R ∧ (∀ x ∈ R, x.length ≤ 140737488355328) ∧ R.length ≤ 5864062014634 ∧ (R.map fun b => b.length + 1).sum + 1 ≤ Rows.uptoBulk y.1 := by
  obtain ⟨u, R, hu, h1, h2, h4, h5, h6⟩ := open_rslU (k := 1) (R := RB1 (Old W)) (B := fun l => l.length ≤ 140737488355328) (β := fun l => l.length + 1) (bulk := Rows.uptoBulk) Try.underlying22 (by kernel_rfl) (by omega) h hr open_bsU
  injection hu with hu
  subst hu
  have h1' : RBss (Old W) W v R := h1
  obtain ⟨A, c, rfl, _, _⟩ := h1'.form
  rw [show Try.prog.bytesOf 35 = 24 by kernel_rfl] at h4
  have h4' : R.length * 24 ≤ 140737488351232 := h4
  refine ⟨A, c, R, rfl, h1', h2, by omega, ?_⟩
  rcases h6 with ⟨e, rfl⟩ | ⟨es, sp, e, h7, h8⟩
  · rw [List.map_nil, List.sum_nil]; exact bulk_one _
  · rw [e]
    simp only [Rows.uptoBulk]
    rw [bulkAll_sum es]; omega
theorem open_larg {b0 : Nat} {v : Value} {dd : DataW H} {p : List MemPlace} (hv : Value.okWide Try.prog W .any b0 22 v) (h : DataW.Trod enc Try.prog W 0 (fun _ => true) true 22 v dd p) (hr : Reach Try.prog 22 dd) :
    ∃ A c R, v = .slice A (List.length R) c ∧ RBss (Old W) W (.slice A (List.length R) c) R ∧ (∀ x ∈ R, x.length ≤ 140737488355328) ∧ R.length ≤ 5864062014634 ∧ (R.map fun b => b.length + 1).sum + 1 ≤ Rows.uptoBulk dd := by
  obtain ⟨C, n, c, rfl⟩ := okWide_slice Try.underlying22 hv
  obtain ⟨fuel, hf⟩ := h
  simp only [Value.cells] at hf
  exact open_lst fuel hf hr
end
end Go.Proofs.Ytfmhnplkpohogaa

namespace Go.Proofs.Ytfmhnplkpohogaa
open Go.RowKit

variable {S S' : Nat → Prop}

structure Cr where
  recs : List (List UInt8)
  stop : Bool
  left : UInt8
def RCr (S : Nat → Prop) (w : World) (cs : List Value) (x : Cr) : Prop := ∃ v, cs = [v, .bool x.stop, .int .u8 (x.left.toNat : Nat)] ∧ RBss S w v x.recs
def RCrs (S : Nat → Prop) (w : World) (v : Value) (l : List Cr) : Prop := RSl S 3 (RCr S) w v l
theorem RCr.keep {w w' : World} {cs : List Value} {x : Cr} (h : RCr S w cs x) (hz : w.heap.size ≤ w'.heap.size) (hk : ∀ b, S b → b < w.heap.size → w'.heap[b]? = w.heap[b]?) : RCr S w' cs x := by
  obtain ⟨v, hv, h⟩ := h
  exact ⟨v, hv, h.keep hz hk⟩
theorem RCrs.ext {w w' : World} {v : Value} {l : List Cr} (h : RCrs S w v l) (he : Ext w w') : RCrs S w' v l := RSl.keep h he.size (fun b _ hlt => he.below.block b hlt) fun _ _ h => h.keep he.size fun b _ hlt => he.below.block b hlt
theorem RCrs.pres {w w' : World} {v : Value} {l : List Cr} (h : RCrs S w v l) (hp : Pres S w w') : RCrs S w' v l := RSl.keep h hp.1 hp.2 fun _ _ h => h.keep hp.1 hp.2
theorem RCrs.get {w : World} {A : Option Addr} {n cap : Nat} {l : List Cr} (h : RCrs S w (.slice A n cap) l) {i : Nat} {x : Cr} (hi : l[i]? = some x) :
    ∃ b off A' c', A = some ⟨b, off, none⟩ ∧ b < w.heap.size ∧ w.cell? ⟨b, off + i * 3, none⟩ = some (.slice A' x.recs.length c') ∧ w.cell? ⟨b, off + i * 3 + 1, none⟩ = some (.bool x.stop) ∧ w.cell? ⟨b, off + i * 3 + 2, none⟩ = some (.int .u8 (x.left.toNat : Nat)) ∧ RBss S w (.slice A' x.recs.length c') x.recs := by
  obtain ⟨hl, rfl⟩ := List.getElem?_eq_some_iff.1 hi
  obtain ⟨hn, _, hx⟩ := RSl.elem h
  obtain ⟨b, off, ha, hb, hc⟩ := hx (by omega)
  obtain ⟨cs, _, hcs, v, rfl, hr⟩ := hc i hl
  obtain ⟨A', c', rfl, _, _⟩ := hr.form
  exact ⟨b, off, A', c', ha, hb, by simpa using hcs 0 _ rfl, by simpa using hcs 1 _ rfl, by simpa using hcs 2 _ rfl, hr⟩
theorem RCrs.clip {w : World} {v : Value} {l : List Cr} (h : RCrs S w v l) (hs : ∀ b, S b → b < w.heap.size) : RCrs (Clip S w) w v l := RSl.sub h (fun b hb => ⟨hb, hs b hb⟩) fun _ _ ⟨v, hv, h⟩ => ⟨v, hv, h.sub fun b hb => ⟨hb, hs b hb⟩⟩
end Go.Proofs.Ytfmhnplkpohogaa

namespace Go.Proofs.Ytfmhnplkpohogaa
open Go.RowKit Go.ChangeShapes Go.WideShapes Go.ChangeAt Go.Deep Go.Joins
set_option maxRecDepth 100000

section
variable {H : Type} {enc : TypeId × Value → H} {W : World}
theorem u8_inK {n : Int} (h : (Lit.int .u8 n).wf = true) : ∃ x : UInt8, n = (x.toNat : Nat) := by
  simp only [Lit.wf, Bool.and_eq_true, decide_eq_true_eq] at h
  have h1 : 0 ≤ n ∧ n ≤ 255 := h
  exact ⟨UInt8.ofNat n.toNat, by rw [UInt8.toNat_ofNat_of_lt' (by simp; omega)]; omega⟩
end

end Go.Proofs.Ytfmhnplkpohogaa
