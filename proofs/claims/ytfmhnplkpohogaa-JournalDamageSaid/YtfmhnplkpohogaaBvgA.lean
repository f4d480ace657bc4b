/- Several texts in one: Inf, Base, Seq, Laws, LawsB, Loc, Ops, Wk, Wk2, Str, Wk3, U32, Wk4, Wk5, Wk6. -/
import Derived.Test.YtfmhnplkpohogaaProg
import Derived.KernelRfl
import Derived.WalkKit
import Derived.Lib.Hide
import Derived.OrdersHeld
import Derived.Maps.AppendAt
import Derived.Laws.CopyOwn
import Derived.IntWalk
import Derived.ChangeKeysEq
import Derived.Great.BuildSlice
import Derived.Lib.ConvBytes
import Derived.Lib.AppendZeros
set_option linter.unusedVariables false
set_option linter.unusedSimpArgs false
namespace Go.Proofs.Ytfmhnplkpohogaa

theorem inf22 : (Try.prog.info? 22).map (·.size) = some 1 := by kernel_rfl
theorem inf35 : (Try.prog.info? 35).map (·.size) = some 1 := by kernel_rfl
theorem inf25 : (Try.prog.info? 25).map (·.size) = some 4 := by kernel_rfl
theorem inf29 : (Try.prog.info? 29).map (·.size) = some 3 := by kernel_rfl
theorem inf3 : (Try.prog.info? 3).map (·.size) = some 1 := by kernel_rfl
theorem inf5 : (Try.prog.info? 5).map (·.size) = some 1 := by kernel_rfl

end Go.Proofs.Ytfmhnplkpohogaa

namespace Go.Proofs.Ytfmhnplkpohogaa
open Go.RowKit

theorem ret_bool {a b : Bool} (h : a = b) : Ending.returned (.bool a) = .returned (.bool b) := by rw [h]
theorem ret_int {k : IntKind} {a b : Int} (h : a = b) : Ending.returned (.int k a) = .returned (.int k b) := by rw [h]

/-- w' is w with more memory: nothing that was there has changed. -/
def Ext (w w' : World) : Prop := Below w.heap.size w w'

theorem Ext.refl (w : World) : Ext w w := Below.refl _ _
theorem Ext.size {w w' : World} (h : Ext w w') : w.heap.size ≤ w'.heap.size := Below.size h
theorem Ext.trans {a b c : World} (h : Ext a b) (k : Ext b c) : Ext a c := Below.trans h (Below.mono k h.size)
theorem Ext.below {w w' : World} (h : Ext w w') : Below w.heap.size w w' := h
theorem Ext.drew {a w : World} (h : Ext a w) : Ext a w.drew := Below.drew h
theorem Ext.alloc {a w : World} (h : Ext a w) (o : Obj) : Ext a (w.alloc o) := Below.alloc h h.size o
theorem Ext.setCell {a w : World} (h : Ext a w) {p : Addr} (hp : a.heap.size ≤ p.block) (u : Value) : Ext a (w.setCell p u) := Below.setCell h hp u
theorem Ext.cellA {w w' : World} (h : Ext w w') {p : Addr} (hp : p.block < w.heap.size) : w'.cell? p = w.cell? p := Below.cell h hp
theorem Ext.cell {w w' : World} (h : Ext w w') {b o : Nat} (hp : b < w.heap.size) : w'.cell? ⟨b, o, none⟩ = w.cell? ⟨b, o, none⟩ := Below.cell (p := ⟨b, o, none⟩) h hp
theorem Ext.cells {w w' : World} (h : Ext w w') : ∀ b o, b < w.heap.size → w'.cell? ⟨b, o, none⟩ = w.cell? ⟨b, o, none⟩ := fun _ _ hp => h.cell hp
theorem Ext.frz {w w' : World} (h : Ext w w') : ∀ b o, b < w.heap.size → w'.frozen? ⟨b, o, none⟩ = w.frozen? ⟨b, o, none⟩ := fun b o hp => Below.frozen (p := ⟨b, o, none⟩) h hp
theorem Ext.keep {w w' : World} (h : Ext w w') {p : Addr} {u : Value} (hc : w.cell? p = some u) : w'.cell? p = some u := by
  rw [h.cellA (World.block_lt_of_cell? w p hc)]; exact hc
theorem Ext.grown {a w w' : World} {row : Option Nat} (h : Ext a w) (hg : w.grownBy w' row) (hr : ∀ k, row = some k → a.heap.size ≤ k) : Ext a w' := Below.grown h hg h.size hr

/-- A block that is known whole. -/
def Blk (w : World) (n : Nat) (t : TypeId) (cs : List Value) : Prop := w.heap[n]? = some (.cells cs.toArray t (0, 0))
theorem Blk.lt {w : World} {n : Nat} {t : TypeId} {cs : List Value} (h : Blk w n t cs) : n < w.heap.size := (Array.getElem?_eq_some_iff.1 h).1
theorem Blk.rule {w : World} {n : Nat} {t : TypeId} {cs : List Value} (h : Blk w n t cs) : (∀ o, w.cell? ⟨n, o, none⟩ = cs[o]?) ∧ (∀ o, w.frozen? ⟨n, o, none⟩ = false) :=
  ⟨fun o => by rw [cell_of_row w n o _ t (0, 0) h]; simp, fun o => frozen_of_row w n o _ t h⟩
theorem Blk.ext {w w' : World} {n : Nat} {t : TypeId} {cs : List Value} (h : Blk w n t cs) (he : Ext w w') : Blk w' n t cs := (he.below.block n h.lt).trans h
theorem Blk.grown {w w' : World} {n : Nat} {t : TypeId} {cs : List Value} {row : Option Nat} (h : Blk w n t cs) (hg : w.grownBy w' row) (hr : some n ≠ row) : Blk w' n t cs := (hg.block n h.lt hr).trans h
theorem Blk.new (w : World) (n : Nat) (t : TypeId) (cs : List Value) (hn : n = w.heap.size) : Blk (w.alloc (.cells cs.toArray t)) n t cs := by subst hn; exact heap_alloc_new w _
theorem Blk.alloc {w : World} {n : Nat} {t : TypeId} {cs : List Value} (h : Blk w n t cs) (o : Obj) : Blk (w.alloc o) n t cs := (Below.heap_alloc w o n h.lt).trans h
theorem Blk.drew {w : World} {n : Nat} {t : TypeId} {cs : List Value} (h : Blk w n t cs) : Blk w.drew n t cs := h
theorem Blk.set {w : World} {n : Nat} {t : TypeId} {cs : List Value} (h : Blk w n t cs) (i : Nat) (u : Value) : Blk (w.setCell ⟨n, i, none⟩ u) n t (cs.set i u) := by
  have := heap_setCell_same w n i cs.toArray t u h
  unfold Blk
  rw [this]; simp
theorem Blk.far {w : World} {n : Nat} {t : TypeId} {cs : List Value} (h : Blk w n t cs) {p : Addr} (hp : n ≠ p.block) (u : Value) : Blk (w.setCell p u) n t cs := (Below.heap_setCell w p u n hp).trans h
theorem ext_of_grown {w w' : World} {row : Option Nat} {a : World} (h : Ext a w) (hg : w.grownBy w' row) (hr : ∀ k, row = Option.some k → a.heap.size ≤ k) : Ext a w' := h.grown hg hr

/-- The cells of a slice of n elements of k cells each. -/
def Cel (w : World) (k : Nat) (A : Option Addr) (n : Nat) (xs : List Value) : Prop :=
  xs.length = n * k ∧ (∀ u ∈ xs, u.oneCell' = true) ∧ (0 < n → ∃ b off, A = some ⟨b, off, none⟩ ∧ b < w.heap.size ∧ ∀ j u, xs[j]? = some u → w.cell? ⟨b, off + j, none⟩ = some u)

theorem Cel.ext {w w' : World} {k : Nat} {A : Option Addr} {n : Nat} {xs : List Value} (h : Cel w k A n xs) (he : Ext w w') : Cel w' k A n xs := by
  obtain ⟨h1, h2, h3⟩ := h
  refine ⟨h1, h2, fun h0 => ?_⟩
  obtain ⟨b, off, ha, hb, hx⟩ := h3 h0
  exact ⟨b, off, ha, Nat.lt_of_lt_of_le hb he.size, fun j u hu => he.keep (hx j u hu)⟩

theorem Cel.none (w : World) (k : Nat) (A : Option Addr) : Cel w k A 0 [] := ⟨by simp, fun _ h => by simp at h, fun h => absurd h (by simp)⟩

/-- The i-th k of a list. -/
def chunk (k : Nat) (xs : List Value) (i : Nat) : List Value := (xs.drop (i * k)).take k

theorem chunk_length {k n : Nat} {xs : List Value} (h : xs.length = n * k) {i : Nat} (hi : i < n) : (chunk k xs i).length = k := by
  unfold chunk
  rw [List.length_take, List.length_drop, h]
  have : (i + 1) * k ≤ n * k := Nat.mul_le_mul_right _ hi
  rw [Nat.add_mul, Nat.one_mul] at this
  omega

theorem chunk_get {k : Nat} {xs : List Value} {i j : Nat} {u : Value} (h : (chunk k xs i)[j]? = some u) : xs[i * k + j]? = some u := by
  unfold chunk at h
  rw [List.getElem?_take] at h
  split at h
  · rwa [List.getElem?_drop] at h
  · cases h

theorem chunk_append_left {k n : Nat} {xs ys : List Value} (h : xs.length = n * k) {i : Nat} (hi : i < n) : chunk k (xs ++ ys) i = chunk k xs i := by
  unfold chunk
  have : (i + 1) * k ≤ n * k := Nat.mul_le_mul_right _ hi
  rw [Nat.add_mul, Nat.one_mul] at this
  rw [List.drop_append_of_le_length (by omega), List.take_append_of_le_length (by rw [List.length_drop]; omega)]

theorem chunk_append_right {k n : Nat} {xs ys : List Value} (h : xs.length = n * k) {i : Nat} (hi : n ≤ i) : chunk k (xs ++ ys) i = chunk k ys (i - n) := by
  unfold chunk
  have : n * k ≤ i * k := Nat.mul_le_mul_right _ hi
  rw [List.drop_append, List.drop_eq_nil_of_le (by omega), List.nil_append, h, Nat.sub_mul]

theorem chunk_one {xs : List Value} {i : Nat} (hi : i < xs.length) : chunk 1 xs i = [xs[i]] := by
  unfold chunk
  rw [Nat.mul_one, List.drop_eq_getElem_cons hi]; rfl

theorem chunk_self {k : Nat} {xs : List Value} (h : xs.length = k) : chunk k xs 0 = xs := by
  unfold chunk; rw [Nat.zero_mul, List.drop_zero, List.take_of_length_le (by omega)]

/-- The blocks of a footprint, and all that are new since w. -/
def Fr (S : Nat → Prop) (w : World) (k : Nat) : Prop := S k ∨ w.heap.size ≤ k

variable {S S' : Nat → Prop}

/-- A slice's elements of k cells each, read one by one by R; its cells lie in a block of S. -/
def RSl {α : Type} (S : Nat → Prop) (k : Nat) (R : World → List Value → α → Prop) (w : World) (v : Value) (l : List α) : Prop :=
  ∃ A cap xs, v = .slice A l.length cap ∧ (l.length ≤ cap ∧ cap ≤ 9223372036854775807) ∧ Cel w k A l.length xs ∧ (∀ i (h : i < l.length), R w (chunk k xs i) l[i]) ∧ (0 < l.length → ∃ b off, A = some ⟨b, off, none⟩ ∧ S b)

theorem RSl.ext {α : Type} {k : Nat} {R : World → List Value → α → Prop} {w w' : World} {v : Value} {l : List α} (h : RSl S k R w v l) (he : Ext w w')
    (hR : ∀ cs x, R w cs x → R w' cs x) : RSl S k R w' v l := by
  obtain ⟨A, cap, xs, hv, hc, hl, hr, hs⟩ := h
  exact ⟨A, cap, xs, hv, hc, hl.ext he, fun i hi => hR _ _ (hr i hi), hs⟩

/-- It still reads in a world in which the blocks of its footprint are as_ they were. -/
theorem RSl.keep {α : Type} {k : Nat} {R : World → List Value → α → Prop} {w w' : World} {v : Value} {l : List α} (h : RSl S k R w v l) (hz : w.heap.size ≤ w'.heap.size) (hk : ∀ b, S b → b < w.heap.size → w'.heap[b]? = w.heap[b]?)
    (hR : ∀ cs x, R w cs x → R w' cs x) : RSl S k R w' v l := by
  obtain ⟨A, cap, xs, hv, hc, ⟨h1, h2, h3⟩, hr, hs⟩ := h
  refine ⟨A, cap, xs, hv, hc, ⟨h1, h2, fun h0 => ?_⟩, fun i hi => hR _ _ (hr i hi), hs⟩
  obtain ⟨b, off, ha, hb, hx⟩ := h3 h0
  obtain ⟨b', off', ha', hS⟩ := hs h0
  rw [ha] at ha'
  cases ha'
  exact ⟨b, off, ha, Nat.lt_of_lt_of_le hb hz, fun j u hu => by rw [World.cell?_of_block (w := w) (a := ⟨b, off + j, none⟩) (hk b hS hb)]; exact hx j u hu⟩

theorem RSl.sub {α : Type} {k : Nat} {R R' : World → List Value → α → Prop} {w : World} {v : Value} {l : List α} (h : RSl S k R w v l) (hs : ∀ b, S b → S' b) (hR : ∀ cs x, R w cs x → R' w cs x) : RSl S' k R' w v l := by
  obtain ⟨A, cap, xs, hv, hc, hl, hr, h4⟩ := h
  refine ⟨A, cap, xs, hv, hc, hl, fun i hi => hR _ _ (hr i hi), fun h0 => ?_⟩
  obtain ⟨b, off, ha, hS⟩ := h4 h0
  exact ⟨b, off, ha, hs b hS⟩

theorem RSl.nil {α : Type} {k : Nat} {R : World → List Value → α → Prop} (w : World) : RSl S k R w (.slice none 0 0) ([] : List α) :=
  ⟨none, 0, [], rfl, ⟨Nat.le_refl _, by omega⟩, Cel.none _ _ _, fun i h => absurd h (by simp), fun h => absurd h (by simp)⟩

/-- A row that the call itself made reads. -/
theorem RSl.own {α : Type} {k : Nat} {R : World → List Value → α → Prop} {w : World} {base : Nat} {e : TypeId} {v : Value} {n : Nat} {xs : List Value} {l : List α} (h : w.ownsRow base e k v n xs) (hS : ∀ b, base ≤ b → S b) (hn : n = l.length)
    (h1 : ∀ u ∈ xs, u.oneCell' = true) (hR : ∀ i (h : i < l.length), R w (chunk k xs i) l[i]) : RSl S k R w v l := by
  subst hn
  rcases h.2 with ⟨rfl, h0⟩ | ⟨g, cap, cur, rfl, hb, hg, hnc, hcm, hcs, ht⟩
  · have : l = [] := List.eq_nil_of_length_eq_zero h0
    subst this
    exact RSl.nil w
  · refine ⟨_, cap, xs, rfl, ⟨hnc, by simpa [maxLen] using hcm⟩, ⟨h.1, h1, fun h0 => ⟨g, 0, rfl, (Array.getElem?_eq_some_iff.1 hg).1, fun j u hu => ?_⟩⟩, hR, fun _ => ⟨g, 0, rfl, hS g hb⟩⟩
    have hc := h.cells (g := g) rfl j u hu
    have hadd : (⟨g, 0, none⟩ : Addr).add j = ⟨g, 0 + j, none⟩ := by unfold Addr.add; split <;> simp_all
    rw [hadd] at hc
    exact hc

theorem RSl.form {α : Type} {k : Nat} {R : World → List Value → α → Prop} {w : World} {v : Value} {l : List α} (h : RSl S k R w v l) :
    ∃ A cap, v = .slice A l.length cap ∧ l.length ≤ cap ∧ cap ≤ 9223372036854775807 := by
  obtain ⟨A, cap, xs, hv, hc, _, _, _⟩ := h; exact ⟨A, cap, hv, hc.1, hc.2⟩

theorem RSl.cel {α : Type} {k : Nat} {R : World → List Value → α → Prop} {w : World} {A : Option Addr} {n cap : Nat} {l : List α} (h : RSl S k R w (.slice A n cap) l) :
    n = l.length ∧ (n ≤ cap ∧ cap ≤ 9223372036854775807) ∧ ∃ xs, Cel w k A n xs ∧ ∀ i (h : i < l.length), R w (chunk k xs i) l[i] := by
  obtain ⟨A', cap', xs, hv, hc, hl, hr, _⟩ := h
  cases hv
  exact ⟨rfl, hc, xs, hl, hr⟩

/-- The elements' cells, one element at a time. -/
theorem RSl.elem {α : Type} {k : Nat} {R : World → List Value → α → Prop} {w : World} {A : Option Addr} {n cap : Nat} {l : List α} (h : RSl S k R w (.slice A n cap) l) : n = l.length ∧ (n ≤ cap ∧ cap ≤ 9223372036854775807) ∧
    (0 < n → ∃ b off, A = some ⟨b, off, none⟩ ∧ b < w.heap.size ∧ ∀ i (h : i < l.length), ∃ cs : List Value, cs.length = k ∧ (∀ j u, cs[j]? = some u → w.cell? ⟨b, off + i * k + j, none⟩ = some u) ∧ R w cs l[i]) := by
  obtain ⟨hn, hc, xs, ⟨h1, h2, h3⟩, hr⟩ := h.cel
  refine ⟨hn, hc, fun h0 => ?_⟩
  obtain ⟨b, off, ha, hb, hx⟩ := h3 h0
  refine ⟨b, off, ha, hb, fun i hi => ⟨chunk k xs i, chunk_length h1 (by omega), fun j u hu => ?_, hr i hi⟩⟩
  rw [Nat.add_assoc]
  exact hx _ u (chunk_get hu)

/-- One byte. -/
def RByte (_ : World) (cs : List Value) (c : UInt8) : Prop := cs = [.int .u8 c.toNat]
/-- Bytes. -/
def RBs (S : Nat → Prop) (w : World) (v : Value) (l : List UInt8) : Prop := RSl S 1 RByte w v l
theorem RBs.ext {w w' : World} {v : Value} {l : List UInt8} (h : RBs S w v l) (he : Ext w w') : RBs S w' v l := RSl.ext h he fun _ _ h => h
/-- A cell that holds a slice of bytes. -/
def RB1 (S : Nat → Prop) (w : World) (cs : List Value) (l : List UInt8) : Prop := ∃ v, cs = [v] ∧ RBs S w v l
theorem RB1.ext {w w' : World} {cs : List Value} {l : List UInt8} (h : RB1 S w cs l) (he : Ext w w') : RB1 S w' cs l := by
  obtain ⟨v, hv, h⟩ := h; exact ⟨v, hv, h.ext he⟩
/-- A slice of slices of bytes. -/
def RBss (S : Nat → Prop) (w : World) (v : Value) (l : List (List UInt8)) : Prop := RSl S 1 (RB1 S) w v l
theorem RBss.ext {w w' : World} {v : Value} {l : List (List UInt8)} (h : RBss S w v l) (he : Ext w w') : RBss S w' v l := RSl.ext h he fun _ _ h => h.ext he

theorem RBs.keep {w w' : World} {v : Value} {l : List UInt8} (h : RBs S w v l) (hz : w.heap.size ≤ w'.heap.size) (hk : ∀ b, S b → b < w.heap.size → w'.heap[b]? = w.heap[b]?) : RBs S w' v l := RSl.keep h hz hk fun _ _ h => h
theorem RBs.sub {w : World} {v : Value} {l : List UInt8} (h : RBs S w v l) (hs : ∀ b, S b → S' b) : RBs S' w v l := RSl.sub h hs fun _ _ h => h
theorem RB1.sub {w : World} {cs : List Value} {l : List UInt8} (h : RB1 S w cs l) (hs : ∀ b, S b → S' b) : RB1 S' w cs l := by
  obtain ⟨v, hv, h⟩ := h; exact ⟨v, hv, h.sub hs⟩
theorem RB1.keep {w w' : World} {cs : List Value} {l : List UInt8} (h : RB1 S w cs l) (hz : w.heap.size ≤ w'.heap.size) (hk : ∀ b, S b → b < w.heap.size → w'.heap[b]? = w.heap[b]?) : RB1 S w' cs l := by
  obtain ⟨v, hv, h⟩ := h; exact ⟨v, hv, h.keep hz hk⟩
theorem RBss.keep {w w' : World} {v : Value} {l : List (List UInt8)} (h : RBss S w v l) (hz : w.heap.size ≤ w'.heap.size) (hk : ∀ b, S b → b < w.heap.size → w'.heap[b]? = w.heap[b]?) : RBss S w' v l := RSl.keep h hz hk fun _ _ h => h.keep hz hk
theorem RBss.sub {w : World} {v : Value} {l : List (List UInt8)} (h : RBss S w v l) (hs : ∀ b, S b → S' b) : RBss S' w v l := RSl.sub h hs fun _ _ h => h.sub hs
theorem RBs.up {w w0 : World} {v : Value} {l : List UInt8} (h : RBs S w v l) : RBs (Fr S w0) w v l := h.sub fun _ => .inl
theorem RBss.up {w w0 : World} {v : Value} {l : List (List UInt8)} (h : RBss S w v l) : RBss (Fr S w0) w v l := h.sub fun _ => .inl
theorem Fr.new {w : World} {B : Nat} (hB : w.heap.size ≤ B) : ∀ b, B ≤ b → Fr S w b := fun _ h => .inr (Nat.le_trans hB h)

/-- The i-th byte's cell. -/
theorem RBs.at {w : World} {A : Option Addr} {n cap : Nat} {l : List UInt8} (h : RBs S w (.slice A n cap) l) : n = l.length ∧ (n ≤ cap ∧ cap ≤ 9223372036854775807) ∧
    (0 < n → ∃ b off, A = some ⟨b, off, none⟩ ∧ b < w.heap.size ∧ ∀ i (h : i < l.length), w.cell? ⟨b, off + i, none⟩ = some (.int .u8 l[i].toNat)) := by
  obtain ⟨hn, hc, hl⟩ := RSl.elem h
  refine ⟨hn, hc, fun h0 => ?_⟩
  obtain ⟨b, off, ha, hb, hx⟩ := hl h0
  refine ⟨b, off, ha, hb, fun i hi => ?_⟩
  obtain ⟨cs, hk, hcs, hr⟩ := hx i hi
  unfold RByte at hr; subst hr
  simpa using hcs 0 _ rfl

theorem RBss.at {w : World} {A : Option Addr} {n cap : Nat} {l : List (List UInt8)} (h : RBss S w (.slice A n cap) l) : n = l.length ∧ (n ≤ cap ∧ cap ≤ 9223372036854775807) ∧
    (0 < n → ∃ b off, A = some ⟨b, off, none⟩ ∧ b < w.heap.size ∧ ∀ i (h : i < l.length), ∃ v, w.cell? ⟨b, off + i, none⟩ = some v ∧ RBs S w v l[i]) := by
  obtain ⟨hn, hc, hl⟩ := RSl.elem h
  refine ⟨hn, hc, fun h0 => ?_⟩
  obtain ⟨b, off, ha, hb, hx⟩ := hl h0
  refine ⟨b, off, ha, hb, fun i hi => ?_⟩
  obtain ⟨cs, hk, hcs, v, rfl, hr⟩ := hx i hi
  exact ⟨v, by simpa using hcs 0 _ rfl, hr⟩

theorem RBs.form {w : World} {v : Value} {l : List UInt8} (h : RBs S w v l) : ∃ A cap, v = .slice A l.length cap ∧ l.length ≤ cap ∧ cap ≤ 9223372036854775807 := RSl.form h
theorem RBss.form {w : World} {v : Value} {l : List (List UInt8)} (h : RBss S w v l) : ∃ A cap, v = .slice A l.length cap ∧ l.length ≤ cap ∧ cap ≤ 9223372036854775807 := RSl.form h

/-- The cells of bytes. -/
def byteVals (l : List UInt8) : List Value := l.map fun c => .int .u8 c.toNat
theorem byteVals_one (l : List UInt8) : ∀ u ∈ byteVals l, u.oneCell' = true := by
  intro u hu
  simp only [byteVals, List.mem_map] at hu
  obtain ⟨c, _, rfl⟩ := hu
  rfl
theorem RBs.vals {w : World} {A : Option Addr} {n cap : Nat} {l : List UInt8} (h : RBs S w (.slice A n cap) l) : n = l.length ∧ (n ≤ cap ∧ cap ≤ 9223372036854775807) ∧ Cel w 1 A n (byteVals l) := by
  obtain ⟨rfl, hc, xs, h1, hr⟩ := RSl.cel h
  refine ⟨rfl, hc, ?_⟩
  have hl : xs.length = l.length := by have := h1.1; omega
  have : xs = byteVals l := by
    apply List.ext_getElem (by simp [byteVals, hl])
    intro i h2 h3
    have := hr i (by omega)
    unfold RByte at this
    rw [chunk_one h2] at this
    simp [byteVals]
    simpa using this
  rw [this] at h1
  exact h1
theorem RBs.own {w : World} {base : Nat} {e : TypeId} {v : Value} {n : Nat} {l : List UInt8} (h : w.ownsRow base e 1 v n (byteVals l)) (hS : ∀ b, base ≤ b → S b) : RBs S w v l := by
  have hl : n = l.length := by have := h.1; simp [byteVals] at this; exact this.symm
  exact RSl.own h hS hl (byteVals_one l) fun i hi => by
    unfold RByte
    rw [chunk_one (by simpa [byteVals] using hi)]
    simp [byteVals]

end Go.Proofs.Ytfmhnplkpohogaa

namespace Go.Proofs.Ytfmhnplkpohogaa
open Go.RowKit

section
variable {P : Program} {ops : Array Oper} {Q : Exit → Act → World → Prop} {S : World → Prop} {F : Nat → Bool} {light : Nat → Bool}

/-- Whatever order is picked; S holds behind every operation that is not of F. -/
def wpAnyF (P : Program) (ops : Array Oper) (Q : Exit → Act → World → Prop) (S : World → Prop) (F : Nat → Bool) : Nat → Array Bool → Act → World → Prop
  | 0, listed, a, w => Region.ready .any ops listed = [] ∧ Q .normal a w
  | fuel + 1, listed, a, w =>
    (Region.ready .any ops listed = [] → Q .normal a w) ∧
    ∀ i ∈ Region.ready .any ops listed, wpOp P ops Q i (fun a' w' => (F i = false → S w → S w') ∧ wpAnyF P ops Q S F fuel (listed.setIfInBounds i true) a' w') a w

theorem wpAny_of_F : ∀ (fuel : Nat) (listed : Array Bool) (a : Act) (w : World), wpAnyF P ops Q S F fuel listed a w → wpAny P .any ops Q fuel listed a w
  | 0, _, _, _, h => h
  | fuel + 1, _, _, _, h => ⟨h.1, fun i hi => wpOp_mono (fun a' w' h' => wpAny_of_F fuel _ a' w' h'.2) (h.2 i hi)⟩

theorem wpAnyF_first {i : Nat} {oi : Oper} {v : Value} (hi : ops[i]? = some oi) (hsel : ∀ (j : Nat) (o : Oper) cs b, ops[j]? = some o → o.op ≠ .select cs b)
    (hQ : ∀ c a w, Q (.panic c) (a.put oi.dst v) w → Q (.panic c) a w) (hFi : F i = false) :
    ∀ (fuel : Nat) (listed : Array Bool) (a : Act) (w : World),
      (∀ j oj, ops[j]? = some oj → j ≠ i → listed.getD j true = false → (∀ e ∈ oj.after, Region.binds .any e = true → e.on ≠ i) → oi.apart ops oj = true) →
      (∀ j oj, ops[j]? = some oj → F j = true → ∃ e ∈ oj.after, Region.binds .any e = true ∧ e.on = i) →
      i ∈ Region.ready .any ops listed → YieldsIf P ops S oi v a → S w →
      wpAnyF P ops Q S F fuel (listed.setIfInBounds i true) (a.put oi.dst v) w → wpAnyF P ops Q S F (fuel + 1) listed a w := by
  intro fuel
  induction fuel with
  | zero =>
    intro listed a w _ _ hr hy hS H
    refine ⟨fun h => (by rw [h] at hr; cases hr), fun j hj => ?_⟩
    by_cases hji : j = i
    · subst hji; exact hy.wpOp hi hS ⟨fun _ h => h, H⟩
    · have := ready_mono hj hji
      rw [H.1] at this
      cases this
  | succ fuel ih =>
    intro listed a w hfree hwait hr hy hS H
    refine ⟨fun h => (by rw [h] at hr; cases hr), fun j hj => ?_⟩
    by_cases hji : j = i
    · subst hji; exact hy.wpOp hi hS ⟨fun _ h => h, H⟩
    · have h1 := H.2 j (ready_mono hj hji)
      obtain ⟨hjun, oj, hoj, hall⟩ := mem_ready.1 hj
      have hnot : ∀ e ∈ oj.after, Region.binds .any e = true → e.on ≠ i := fun e he hb heq => by
        have h1 := hall e he hb
        have h0 := (mem_ready.1 hr).1
        rw [heq] at h1
        rcases Nat.lt_or_ge i listed.size with h' | h'
        · simp [h'] at h0 h1; rw [h0] at h1; cases h1
        · simp [Array.getElem?_eq_none h'] at h1
      have hFj : F j = false := by
        cases hF : F j with
        | false => rfl
        | true =>
          obtain ⟨e, he, hb, heq⟩ := hwait j oj hoj hF
          exact absurd heq (hnot e he hb)
      have h2 := wpOp_putIf hoj (hfree j oj hoj hji hjun hnot) (fun cs b => hsel i oi cs b hi) (fun cs b => hsel j oj cs b hoj) hQ hy h1
      have hfree' : ∀ k ok, ops[k]? = some ok → k ≠ i → (listed.setIfInBounds j true).getD k true = false →
          (∀ e ∈ ok.after, Region.binds .any e = true → e.on ≠ i) → oi.apart ops ok = true := fun k ok hk hki hun hno => by
        refine hfree k ok hk hki ?_ hno
        by_cases hjk : j = k
        · subst hjk; exact hjun
        · rw [getD_set_ne true hjk] at hun; exact hun
      refine wpOp_mono (fun a' w' h3 => ⟨h3.2.1, ih (listed.setIfInBounds j true) a' w' hfree' hwait (ready_mono hr (Ne.symm hji)) h3.1 (h3.2.1 hFj hS) ?_⟩) h2
      rw [Array.setIfInBounds_comm _ _ hji]
      exact h3.2.2

/-- The same for an operation that looks at no memory: nothing need wait for it. -/
theorem wpAnyF_firstP {i : Nat} {oi : Oper} {v : Value} (hi : ops[i]? = some oi) (hsel : ∀ (j : Nat) (o : Oper) cs b, ops[j]? = some o → o.op ≠ .select cs b)
    (hQ : ∀ c a w, Q (.panic c) (a.put oi.dst v) w → Q (.panic c) a w) :
    ∀ (fuel : Nat) (listed : Array Bool) (a : Act) (w : World),
      (∀ j oj, ops[j]? = some oj → j ≠ i → listed.getD j true = false → (∀ e ∈ oj.after, Region.binds .any e = true → e.on ≠ i) → oi.apart ops oj = true) →
      i ∈ Region.ready .any ops listed → Yields P ops oi v a →
      wpAnyF P ops Q S F fuel (listed.setIfInBounds i true) (a.put oi.dst v) w → wpAnyF P ops Q S F (fuel + 1) listed a w := by
  intro fuel
  induction fuel with
  | zero =>
    intro listed a w _ hr hy H
    refine ⟨fun h => (by rw [h] at hr; cases hr), fun j hj => ?_⟩
    by_cases hji : j = i
    · subst hji; exact hy.wpOp hi ⟨fun _ h => h, H⟩
    · have := ready_mono hj hji
      rw [H.1] at this
      cases this
  | succ fuel ih =>
    intro listed a w hfree hr hy H
    refine ⟨fun h => (by rw [h] at hr; cases hr), fun j hj => ?_⟩
    by_cases hji : j = i
    · subst hji; exact hy.wpOp hi ⟨fun _ h => h, H⟩
    · have h1 := H.2 j (ready_mono hj hji)
      obtain ⟨hjun, oj, hoj, hall⟩ := mem_ready.1 hj
      have hnot : ∀ e ∈ oj.after, Region.binds .any e = true → e.on ≠ i := fun e he hb heq => by
        have h1 := hall e he hb
        have h0 := (mem_ready.1 hr).1
        rw [heq] at h1
        rcases Nat.lt_or_ge i listed.size with h' | h'
        · simp [h'] at h0 h1; rw [h0] at h1; cases h1
        · simp [Array.getElem?_eq_none h'] at h1
      have h2 := wpOp_put hoj (hfree j oj hoj hji hjun hnot) (fun cs b => hsel i oi cs b hi) (fun cs b => hsel j oj cs b hoj) hQ hy h1
      have hfree' : ∀ k ok, ops[k]? = some ok → k ≠ i → (listed.setIfInBounds j true).getD k true = false →
          (∀ e ∈ ok.after, Region.binds .any e = true → e.on ≠ i) → oi.apart ops ok = true := fun k ok hk hki hun hno => by
        refine hfree k ok hk hki ?_ hno
        by_cases hjk : j = k
        · subst hjk; exact hjun
        · rw [getD_set_ne true hjk] at hun; exact hun
      refine wpOp_mono (fun a' w' h3 => ⟨h3.2.1, ih (listed.setIfInBounds j true) a' w' hfree' (ready_mono hr (Ne.symm hji)) h3.1 ?_⟩) h2
      rw [Array.setIfInBounds_comm _ _ hji]
      exact h3.2.2

/-- Every operation of F waits for number i. -/
def waitsB (ops : Array Oper) (F : Nat → Bool) (i : Nat) : Bool :=
  (List.range ops.size).all fun j => !F j || ((ops[j]?).map fun o => o.after.any fun e => Region.binds .any e && e.on == i).getD true

theorem waitsB_spec {i : Nat} (h : waitsB ops F i = true) (j : Nat) (oj : Oper) (hj : ops[j]? = some oj) (hF : F j = true) : ∃ e ∈ oj.after, Region.binds .any e = true ∧ e.on = i := by
  have hl : j < ops.size := (Array.getElem?_eq_some_iff.1 hj).1
  have := List.all_eq_true.1 h j (List.mem_range.2 hl)
  rw [hF, hj] at this
  simp only [Bool.not_true, Option.map_some, Option.getD_some, Bool.false_or] at this
  obtain ⟨e, he, h2⟩ := Array.any_eq_true'.1 this
  simp only [Bool.and_eq_true, beq_iff_eq] at h2
  exact ⟨e, he, h2⟩

/-- Number i is light: it may come up, is free, F waits for it. -/
def lightB (ops : Array Oper) (F : Nat → Bool) (listed : Array Bool) (i : Nat) : Bool :=
  !F i && Region.free .any ops listed i && (Region.ready .any ops listed).contains i && waitsB ops F i

theorem any_start {id : Nat} {a : Act} {w : World} (S : World → Prop) (F : Nat → Bool) (n : Nat) (L : Array Bool) (hm : P.follows .mixedOrders = true) (hn : n = ops.size) (hL : L = Array.replicate ops.size false)
    (h : wpAnyF P ops Q S F n L a w.drew) : (Code.region id ops true).wp P Q a w :=
  wp_region_any hm (wpAny_of_F _ _ _ _ (hL ▸ hn ▸ h))

theorem any_nil {a : Act} {w : World} {L : Array Bool} (hr : Region.ready .any ops L = []) (h : Q .normal a w) : wpAnyF P ops Q S F 0 L a w := ⟨hr, h⟩

theorem any_light {i n : Nat} {L L' : Array Bool} {a : Act} {w : World} {o : Oper} {v : Value} (hs : Region.noSelect ops = true) (hb : lightB ops F L i = true) (hL : L.setIfInBounds i true = L') (ho : ops[i]? = some o) (hQ : ∀ c a w, Q (.panic c) (a.put o.dst v) w → Q (.panic c) a w) (hw : Region.wanted o (yielded ops a.tmps) = true) (hS : S w)
    (hr : ∀ W, S W → (execOp a.eval o).run P W = .ok (.value v) W) (h : wpAnyF P ops Q S F n L' (a.put o.dst v) w) : wpAnyF P ops Q S F (n + 1) L a w := by
  subst hL
  simp only [lightB, Bool.and_eq_true, Bool.not_eq_true'] at hb
  obtain ⟨⟨⟨h2, h3⟩, h4⟩, h5⟩ := hb
  exact wpAnyF_first ho (Region.noSelect_spec hs) hQ h2 n L a w (Region.free_spec ho h3) (fun j oj hj hF => waitsB_spec h5 j oj hj hF) (by simpa using h4) (.inl ⟨hw, hr⟩) hS h
def freeB (ops : Array Oper) (listed : Array Bool) (i : Nat) : Bool := Region.free .any ops listed i && (Region.ready .any ops listed).contains i
theorem any_pureY {i n : Nat} {L L' : Array Bool} {a : Act} {w : World} {o : Oper} {v : Value} (hs : Region.noSelect ops = true) (hb : freeB ops L i = true) (hL : L.setIfInBounds i true = L') (ho : ops[i]? = some o) (hQ : ∀ c a w, Q (.panic c) (a.put o.dst v) w → Q (.panic c) a w)
    (hy : Yields P ops o v a) (h : wpAnyF P ops Q S F n L' (a.put o.dst v) w) : wpAnyF P ops Q S F (n + 1) L a w := by
  subst hL
  simp only [freeB, Bool.and_eq_true] at hb
  exact wpAnyF_firstP ho (Region.noSelect_spec hs) hQ n L a w (Region.free_spec ho hb.1) (by simpa using hb.2) hy h

theorem any_one {i n : Nat} {L L' : Array Bool} {a : Act} {w : World} (hr : Region.ready .any ops L = [i]) (hL : L.setIfInBounds i true = L')
    (h : wpOp P ops Q i (fun a' w' => (F i = false → S w → S w') ∧ wpAnyF P ops Q S F n L' a' w') a w) : wpAnyF P ops Q S F (n + 1) L a w := by
  subst hL
  refine ⟨fun h0 => (by rw [hr] at h0; cases h0), fun j hj => ?_⟩
  rw [hr] at hj
  simp only [List.mem_singleton] at hj
  subst hj
  exact h
theorem any_two {i k n : Nat} {L L1 L2 : Array Bool} {a : Act} {w : World} (hr : Region.ready .any ops L = [i, k]) (hL : L.setIfInBounds i true = L1) (hL2 : L.setIfInBounds k true = L2)
    (h : wpOp P ops Q i (fun a' w' => (F i = false → S w → S w') ∧ wpAnyF P ops Q S F n L1 a' w') a w)
    (h2 : wpOp P ops Q k (fun a' w' => (F k = false → S w → S w') ∧ wpAnyF P ops Q S F n L2 a' w') a w) : wpAnyF P ops Q S F (n + 1) L a w := by
  subst hL
  subst hL2
  refine ⟨fun h0 => (by rw [hr] at h0; cases h0), fun j hj => ?_⟩
  rw [hr] at hj
  simp only [List.mem_cons, List.not_mem_nil, or_false] at hj
  rcases hj with rfl | rfl
  · exact h
  · exact h2

section
variable {i : Nat} {a : Act} {w w' : World} {o : Oper} {v : Value} {K : Act → World → Prop}
theorem op_run (ho : ops[i]? = some o) (hw : Region.wanted o (yielded ops a.tmps) = true) (hr : (execOp a.eval o).run P w = .ok (.value v) w') (h : K (a.put o.dst v) w') : wpOp P ops Q i K a w := by
  unfold wpOp
  rw [ho]
  simp only [hw, if_true]
  exact .inl (by unfold Oper.wp; rw [hr]; exact h)
theorem op_do (ho : ops[i]? = some o) (hw : Region.wanted o (yielded ops a.tmps) = true) (hr : (execOp a.eval o).run P w = .ok .skip w') (h : K (a.put o.dst undef) w') : wpOp P ops Q i K a w := by
  unfold wpOp
  rw [ho]
  simp only [hw, if_true]
  exact .inl (by unfold Oper.wp; rw [hr]; exact h)
theorem op_wp (ho : ops[i]? = some o) (hw : Region.wanted o (yielded ops a.tmps) = true) (h : o.wp P a w K Q) : wpOp P ops Q i K a w := by
  unfold wpOp
  rw [ho]
  simp only [hw, if_true]
  exact .inl h
theorem op_call (ho : ops[i]? = some o) (hw : Region.wanted o (yielded ops a.tmps) = true) {f : FuncId} {args : Array Value} (hr : (execOp a.eval o).run P w = .ok (.enter f args) w') {R : Ending → World → Prop} (hc : Calls P f args w' R)
    (h : ∀ e w'', R e w'' → ∃ v, e = .returned v ∧ K (a.put o.dst v) w'') : wpOp P ops Q i K a w := by
  unfold wpOp
  rw [ho]
  simp only [hw, if_true]
  refine .inl ?_
  unfold Oper.wp
  rw [hr]
  refine hc.mono fun e w'' hR => ?_
  obtain ⟨v, rfl, hk⟩ := h e w'' hR
  exact hk
end

section
variable {ρ : Operand → Value} {W : World} {d : Option Tmp} {t : TypeId} {p : String} {af : Array Edge} {g : Option (Nat × Bool)}
def fieldOk (P : Program) (fl : Field) : Bool := match P.info? fl.type with | some i => i.size != 0 | none => false
theorem rn_field {s : TypeId} {x : Operand} {f b o k : Nat} {fs : Array Field} {fl : Field} (hu : P.underlying s = some (.struct fs)) (hf : fs[f]? = some fl) (hsz : fieldOk P fl = true) (hx : ρ x = .pointer (some ⟨b, o, none⟩)) (hk : o + fl.offset = k) :
    (execOp ρ ⟨d, .fieldAddr s x f, t, p, af, g⟩).run P W = .ok (.value (.pointer (some ⟨b, k, none⟩))) W := by
  subst hk
  have ha : (⟨b, o, none⟩ : Addr).add fl.offset = ⟨b, o + fl.offset, none⟩ := by unfold Addr.add; split <;> simp_all
  unfold fieldOk at hsz
  cases hi : P.info? fl.type with
  | none => rw [hi] at hsz; cases hsz
  | some i =>
    rw [hi] at hsz
    have hsz : i.size ≠ 0 := by simpa using hsz
    simp [execOp, Instr.fieldAt, run_underlying hu, hf, Instr.sureAddr, fieldPlace, sizeOf, typeInfo, hi, hsz, hx, ha]
theorem rn_load {s : TypeId} {x : Operand} {b o : Nat} {v : Value} (hagg : (isAgg s).run P W = .ok false W) (hx : ρ x = .pointer (some ⟨b, o, none⟩)) (hc : W.cell? ⟨b, o, none⟩ = some v) :
    (execOp ρ ⟨d, .load s x, t, p, af, g⟩).run P W = .ok (.value v) W := by
  simp [execOp, Instr.loadAt, Instr.sureAddr, loadVar, hagg, hx, go_sem, hc]
theorem run_storeVar_cell {ty : TypeId} {q : Addr} {u v : Value} (hi : (P.info? ty).map (·.size) = some 1) (h1 : u.oneCell' = true) (hc : W.cell? q = some v) (hf : W.frozen? q = false) :
    (storeVar ty q u).run P W = .ok () (W.setCell q u) := by
  have hcs : u.cells = #[u] := by cases u <;> simp_all [Value.cells, Value.oneCell']
  have ha : q.add 0 = q := by simp [Addr.add]
  cases hq : P.info? ty with
  | none => simp [hq] at hi
  | some i =>
    have hs : i.size = 1 := by simp [hq] at hi; exact hi
    simp [storeVar, sizeOf, typeInfo, hq, hcs, hs, storeCells, ha, run_store P W q u .plain h1, hc, hf]
theorem isAgg_no {s : TypeId} {td : TypeDesc} (hu : P.underlying s = some td) (h : (match td with | .struct _ | .array _ _ => true | _ => false) = false) : (isAgg s).run P W = .ok false W := by
  cases td <;> simp_all [isAgg, run_underlying hu]
end

end
end Go.Proofs.Ytfmhnplkpohogaa

namespace Go.Proofs.Ytfmhnplkpohogaa
open Go.RowKit

variable {S S' : Nat → Prop}

/-- What is known of a slice type t: its element type e, the element's zero, its cells and bytes. -/
structure El (P : Program) (t e : TypeId) (z : Value) (k bytes : Nat) : Prop where
  ht : P.underlying t = some (.slice e)
  hi : (P.info? e).map (fun i => (i.zero, i.size, i.bytes)) = some (some z, k, bytes)
  hz : z.cells.size = k
  hk : 0 < k

/-- Stops of the walk: at an append, a copy, a make. -/
theorem stop_append {P : Program} {ops : Array Oper} {Q : Exit → Act → World → Prop} {rest : List Oper} {a : Act} {w : World} {dst : Option Tmp} {ty : TypeId} {pos : String} {after : Array Edge} {g : Option (Nat × Bool)} {as_ : Array Operand} {ts : Array TypeId}
    (h : Hid (wpList P ops Q ({ dst := dst, op := .call { callee := .builtin .append, args := as_, argTypes := ts }, type := ty, pos := pos, after := after, guard := g } :: rest) a w)) :
    wpList P ops Q ({ dst := dst, op := .call { callee := .builtin .append, args := as_, argTypes := ts }, type := ty, pos := pos, after := after, guard := g } :: rest) a w := h
theorem stop_copy {P : Program} {ops : Array Oper} {Q : Exit → Act → World → Prop} {rest : List Oper} {a : Act} {w : World} {dst : Option Tmp} {ty : TypeId} {pos : String} {after : Array Edge} {g : Option (Nat × Bool)} {as_ : Array Operand} {ts : Array TypeId}
    (h : Hid (wpList P ops Q ({ dst := dst, op := .call { callee := .builtin .copy, args := as_, argTypes := ts }, type := ty, pos := pos, after := after, guard := g } :: rest) a w)) :
    wpList P ops Q ({ dst := dst, op := .call { callee := .builtin .copy, args := as_, argTypes := ts }, type := ty, pos := pos, after := after, guard := g } :: rest) a w := h
theorem addr_add (b off j : Nat) : (⟨b, off, none⟩ : Addr).add j = ⟨b, off + j, none⟩ := by unfold Addr.add; split <;> simp_all

theorem own_form {w : World} {base : Nat} {e : TypeId} {k : Nat} {v : Value} {n : Nat} {xs : List Value} (h : w.ownsRow base e k v n xs) (hn : 0 < n) :
    ∃ g cap, v = .slice (some ⟨g, 0, none⟩) n cap ∧ base ≤ g ∧ g < w.heap.size ∧ n ≤ cap ∧ cap ≤ 9223372036854775807 := by
  rcases h.2 with ⟨_, h0⟩ | ⟨g, cap, cur, rfl, hb, hg, hnc, hcm, _⟩
  · omega
  · exact ⟨g, cap, rfl, hb, (Array.getElem?_eq_some_iff.1 hg).1, hnc, by simpa [maxLen] using hcm⟩

theorem own_any {w : World} {base : Nat} {e : TypeId} {k : Nat} {v : Value} {n : Nat} {xs : List Value} (h : w.ownsRow base e k v n xs) :
    ∃ A cap, v = .slice A n cap ∧ n ≤ cap ∧ cap ≤ 9223372036854775807 := by
  rcases h.2 with ⟨rfl, h0⟩ | ⟨g, cap, cur, rfl, hb, hg, hnc, hcm, _⟩
  · exact ⟨none, 0, by rw [h0], by omega, by omega⟩
  · exact ⟨_, cap, rfl, hnc, by simpa [maxLen] using hcm⟩

theorem own_cel {w : World} {base : Nat} {e : TypeId} {k : Nat} {A : Option Addr} {n m cap : Nat} {xs : List Value} (h : w.ownsRow base e k (.slice A m cap) n xs) (h1 : ∀ u ∈ xs, u.oneCell' = true) : m = n ∧ n ≤ cap ∧ Cel w k A n xs := by
  rcases h.2 with ⟨h', h0⟩ | ⟨g, cap', cur, h', hb, hg, hnc, hcm, hcs, ht⟩
  · cases h'
    subst h0
    exact ⟨rfl, Nat.le_refl _, h.1, h1, fun h => absurd h (by omega)⟩
  · cases h'
    refine ⟨rfl, hnc, h.1, h1, fun h0 => ⟨g, 0, rfl, (Array.getElem?_eq_some_iff.1 hg).1, fun j u hu => ?_⟩⟩
    have hc := h.cells (g := g) rfl j u hu
    rwa [addr_add] at hc

/-- An owned row is kept while other memory changes. -/
theorem own_ext {w w' : World} {base : Nat} {e : TypeId} {k : Nat} {v : Value} {n : Nat} {xs : List Value} (h : w.ownsRow base e k v n xs) (he : Ext w w') : w'.ownsRow base e k v n xs :=
  h.kept (row := none) ⟨he.below.os, he.below.tape, he.below.output, he.size, fun i hi _ => he.below.block i hi⟩ (by cases v.ownBlock <;> simp)

theorem Ext.setC {a w : World} (h : Ext a w) {n i : Nat} (hn : a.heap.size ≤ n) {u : Value} : Ext a (w.setCell ⟨n, i, none⟩ u) := h.setCell (p := ⟨n, i, none⟩) hn u
theorem Blk.farC {w : World} {n : Nat} {t : TypeId} {cs : List Value} (h : Blk w n t cs) {m i : Nat} (hp : n ≠ m) {u : Value} : Blk (w.setCell ⟨m, i, none⟩ u) n t cs := h.far (p := ⟨m, i, none⟩) hp u
theorem own_setC {w : World} {base : Nat} {e : TypeId} {k : Nat} {v : Value} {n : Nat} {xs : List Value} (h : w.ownsRow base e k v n xs) {m i : Nat} (hm : m < base) {u : Value} : (w.setCell ⟨m, i, none⟩ u).ownsRow base e k v n xs := ownsRow_setCell_below h (a := ⟨m, i, none⟩) hm u

section
variable {P : Program} {w : World} {ops : Array Oper} {rest : List Oper} {o : Oper} {a : Act} {Q : Exit → Act → World → Prop}

theorem append_nil_src {base : Nat} {t ty e : TypeId} {z : Value} {k bytes : Nat} (E : El P t e z k bytes) {v : Value} {n : Nat} {xs : List Value} (hown : w.ownsRow base e k v n xs) (c : Nat) :
    (Builtin.append_ #[t, t] ty #[v, .slice none 0 c]).run P w = .ok v w := by
  obtain ⟨i, hi, hz0, hz1, hz2⟩ := info_parts E.hi
  rcases hown.2 with ⟨rfl, rfl⟩ | ⟨g, cap, cur, rfl, _, _, hnc, _⟩
  · simp [Builtin.append_, run_underlying E.ht, sizeOf, typeInfo, hi, Builtin.lenOf, Builtin.firstCells]
  · simp [Builtin.append_, run_underlying E.ht, sizeOf, typeInfo, hi, Builtin.lenOf, Builtin.firstCells, hnc, storeCells]

/-- append onto a row of the call's own, from whatever source. -/
theorem run_app {base : Nat} {t ty e : TypeId} {z : Value} {k bytes : Nat} (E : El P t e z k bytes) {v : Value} {n : Nat} {xs : List Value} (hown : w.ownsRow base e k v n xs)
    {A : Option Addr} {m c : Nat} {ys : List Value} (hr : Cel w k A m ys) (h63 : n + m ≤ 9223372036854775807) (hbytes : (n + m) * bytes ≤ 140737488355328) (hbase : base ≤ w.heap.size) :
    ∃ v' w', (Builtin.append_ #[t, t] ty #[v, .slice A m c]).run P w = .ok v' w' ∧ w'.ownsRow base e k v' (n + m) (xs ++ ys) ∧ w.grownBy w' v.ownBlock ∧ (v'.ownBlock = v.ownBlock ∨ v'.ownBlock = some w.heap.size) := by
  obtain ⟨i, hi, hz0, hz1, hz2⟩ := info_parts E.hi
  obtain ⟨hl, h1, hc⟩ := hr
  rcases A with _ | ad
  · have hm : m = 0 := by
      rcases Nat.eq_zero_or_pos m with h0 | h0
      · exact h0
      · obtain ⟨b, off, h, _⟩ := hc h0
        cases h
    subst hm
    have hn : ys = [] := List.eq_nil_of_length_eq_zero (by simpa using hl)
    subst hn
    exact ⟨v, w, append_nil_src E hown c, by simpa using hown, ⟨rfl, rfl, rfl, Nat.le_refl _, fun _ _ _ => rfl⟩, .inl rfl⟩
  · have hcells : ∀ j u, ys[j]? = some u → w.cell? (ad.add j) = some u := by
      intro j u hu
      rcases Nat.eq_zero_or_pos m with h0 | h0
      · subst h0
        have hn : ys = [] := List.eq_nil_of_length_eq_zero (by simpa using hl)
        subst hn
        simp at hu
      · obtain ⟨b, off, h, _, hx⟩ := hc h0
        injection h with h
        subst h
        rw [addr_add]
        exact hx j u hu
    obtain ⟨v', w', hrun, h2, h3, _, h5⟩ := run_append_own_at (P := P) w base t ty e i z k bytes E.ht hi hz0 hz1 hz2 E.hz E.hk v n xs hown ad m c ys hl hcells h1 (by simpa [maxLen] using h63) hbytes hbase
    exact ⟨v', w', hrun, h2, h3, h5⟩

theorem wpList_app {t e : TypeId} {z : Value} {k bytes : Nat} (E : El P t e z k bytes) (hgd : o.guard = none) {s x : Operand}
    (ho : o.op = .call { callee := .builtin .append, args := #[s, x], argTypes := #[t, t] })
    {v : Value} (hs : a.eval s = v) {A : Option Addr} {m c : Nat} (hx : a.eval x = .slice A m c)
    {base n : Nat} {xs ys : List Value} (hown : w.ownsRow base e k v n xs) (hr : Cel w k A m ys) (hbase : base ≤ w.heap.size)
    (h63 : n + m ≤ 9223372036854775807) (hbytes : (n + m) * bytes ≤ 140737488355328)
    (h : ∀ v' w', w'.ownsRow base e k v' (n + m) (xs ++ ys) → w.grownBy w' v.ownBlock → (v'.ownBlock = v.ownBlock ∨ v'.ownBlock = some w.heap.size) → wpList P ops Q rest (a.put o.dst v') w') : wpList P ops Q (o :: rest) a w := by
  refine wpList_plain hgd fun K hK => ?_
  obtain ⟨v', w', hrun, h2, h3, h4⟩ := run_app (P := P) (ty := o.type) (c := c) E hown hr h63 hbytes hbase
  unfold Oper.wp execOp
  simp only [ho, resolve, invoke, builtin, Sem.run_bind, Sem.run_pure, Result.andThen_ok, List.map_toArray, List.map_cons, List.map_nil, hs, hx, hrun]
  exact hK _ _ (h v' w' h2 h3 h4)

/-- append onto a slice whose capacity is its length (whoever made it): at least one element is appended, so a new row is made. -/
theorem run_app_full {t ty e : TypeId} {z : Value} {k bytes : Nat} (E : El P t e z k bytes) {A : Option Addr} {n : Nat} {xs : List Value} (hd : Cel w k A n xs)
    {B : Option Addr} {m c : Nat} {ys : List Value} (hr : Cel w k B m ys) (hm : 0 < m) (h63 : n + m ≤ 9223372036854775807) (hbytes : (n + m) * bytes ≤ 140737488355328) :
    ∃ v' w', (Builtin.append_ #[t, t] ty #[.slice A n n, .slice B m c]).run P w = .ok v' w' ∧ w'.ownsRow w.heap.size e k v' (n + m) (xs ++ ys) ∧ Ext w w' ∧ v'.ownBlock = some w.heap.size := by
  obtain ⟨i, hi, hz0, hz1, hz2⟩ := info_parts E.hi
  obtain ⟨hl, h1, hc⟩ := hr
  obtain ⟨b, off, rfl, hb, hx⟩ := hc hm
  have hys : ∀ j u, ys[j]? = some u → w.cell? ((⟨b, off, none⟩ : Addr).add j) = some u := fun j u hu => by rw [addr_add]; exact hx j u hu
  subst hz1
  have hlen : (xs ++ ys).length = (n + m) * i.size := by rw [List.length_append, hd.1, hl, Nat.add_mul]
  have fin : ∀ old, old < n + m → (w.drew.alloc (.cells (xs.toArray ++ ys.toArray ++ Builtin.zeroCells z.cells (grownCap w (n + m) old e - (n + m))) e)).ownsRow w.heap.size e i.size
        (.slice (some ⟨w.heap.size, 0, none⟩) (n + m) (grownCap w (n + m) old e)) (n + m) (xs ++ ys) := by
    intro old ho
    have hge := grownCap_ge w (n + m) old e
    have hcm : grownCap w (n + m) old e ≤ maxLen := grownCap_le_maxLen w (n + m) old e (by simpa [maxLen] using h63)
    refine ⟨hlen, .inr ⟨w.heap.size, _, _, rfl, Nat.le_refl _, heap_alloc_new w.drew _, hge, hcm, ?_, ?_⟩⟩
    · simp only [Array.size_append, List.size_toArray, size_zeroCells, E.hz, hd.1, hl, ← Nat.add_mul]
      congr 1
      omega
    · simp only [Array.toList_append, List.append_assoc]
      rw [← List.append_assoc, ← hlen]
      exact List.take_left
  rcases Nat.eq_zero_or_pos n with h0 | h0
  · subst h0
    have hxs : xs = [] := List.eq_nil_of_length_eq_zero (by simpa using hd.1)
    subst hxs
    rcases A with _ | ad
    · have hrun := run_append_nil (P := P) w t ty e i z E.ht hi hz0 ⟨b, off, none⟩ m c ys hl hys hm (by omega) (by rw [hz2]; simpa using (by omega : (0 + m) * bytes ≤ 281474976710656))
      refine ⟨_, _, hrun, ?_, (Ext.refl w).drew.alloc _, rfl⟩
      have := fin 0 (by omega)
      simpa using this
    · have hrun := run_append_grow (P := P) w t ty e i z E.ht hi hz0 ad 0 0 [] (by simp) (by simp) ⟨b, off, none⟩ m c ys hl hys (by omega) (by omega) (growslice_fits (by omega) (by rw [hz2]; exact hbytes))
      refine ⟨_, _, hrun, ?_, (Ext.refl w).drew.alloc _, rfl⟩
      exact fin 0 (by omega)
  · obtain ⟨b', off', rfl, hb', hx'⟩ := hd.2.2 h0
    have hrun := run_append_grow (P := P) w t ty e i z E.ht hi hz0 ⟨b', off', none⟩ n n xs hd.1 (fun j u hu => by rw [addr_add]; exact hx' j u hu) ⟨b, off, none⟩ m c ys hl hys (by omega) (by omega) (growslice_fits (by omega) (by rw [hz2]; exact hbytes))
    refine ⟨_, _, hrun, ?_, (Ext.refl w).drew.alloc _, rfl⟩
    exact fin n (by omega)

theorem wpList_app_full {t e : TypeId} {z : Value} {k bytes : Nat} (E : El P t e z k bytes) (hgd : o.guard = none) {s x : Operand}
    (ho : o.op = .call { callee := .builtin .append, args := #[s, x], argTypes := #[t, t] })
    {A : Option Addr} {n : Nat} (hs : a.eval s = .slice A n n) {B : Option Addr} {m c : Nat} (hx : a.eval x = .slice B m c)
    {xs ys : List Value} (hd : Cel w k A n xs) (hr : Cel w k B m ys) (hm : 0 < m)
    (h63 : n + m ≤ 9223372036854775807) (hbytes : (n + m) * bytes ≤ 140737488355328)
    (h : ∀ v' w', w'.ownsRow w.heap.size e k v' (n + m) (xs ++ ys) → Ext w w' → v'.ownBlock = some w.heap.size → wpList P ops Q rest (a.put o.dst v') w') : wpList P ops Q (o :: rest) a w := by
  refine wpList_plain hgd fun K hK => ?_
  obtain ⟨v', w', hrun, h2, h3, h4⟩ := run_app_full (P := P) (ty := o.type) (c := c) E hd hr hm h63 hbytes
  unfold Oper.wp execOp
  simp only [ho, resolve, invoke, builtin, Sem.run_bind, Sem.run_pure, Result.andThen_ok, List.map_toArray, List.map_cons, List.map_nil, hs, hx, hrun]
  exact hK _ _ (h v' w' h2 h3 h4)

/-- copy into a block that is known whole. -/
theorem wpList_cpy {t e : TypeId} {z : Value} {bytes : Nat} (E : El P t e z 1 bytes) (hgd : o.guard = none) {d s : Operand}
    (ho : o.op = .call { callee := .builtin .copy, args := #[d, s], argTypes := #[t, t] })
    {g off dLen dCap : Nat} (hd : a.eval d = .slice (some ⟨g, off, none⟩) dLen dCap) {A : Option Addr} {sLen sCap : Nat} (hs : a.eval s = .slice A sLen sCap)
    {cur : List Value} {t' : TypeId} (hg : w.heap[g]? = some (.cells cur.toArray t' (0, 0))) {ys : List Value} (hr : Cel w 1 A sLen ys)
    (hfit : off + min sLen dLen ≤ cur.length)
    (h : ∀ w', w'.heap[g]? = some (.cells (splice cur off (ys.take (min sLen dLen))).toArray t' (0, 0)) → w.grownBy w' (some g) → wpList P ops Q rest (a.put o.dst (.int .i64 ((min sLen dLen : Nat) : Int))) w') :
    wpList P ops Q (o :: rest) a w := by
  obtain ⟨i, hi, hz0, hz1, hz2⟩ := info_parts E.hi
  have hsz : (P.info? e).map (·.size) = some 1 := by rw [hi]; simp [hz1]
  obtain ⟨hl, h1, hc⟩ := hr
  have hcl : (ys.take (min sLen dLen)).length = min sLen dLen := by rw [List.length_take]; omega
  by_cases h0 : min sLen dLen = 0
  · refine wpList_copy_nothing hgd d s t t ho e E.ht hsz _ _ _ _ _ _ hd hs h0 ?_
    have := h w (by rw [h0]; simpa [splice] using hg) ⟨rfl, rfl, rfl, Nat.le_refl _, fun _ _ _ => rfl⟩
    rw [h0] at this
    exact this
  · obtain ⟨b, off', rfl, hb, hx⟩ := hc (by omega)
    refine wpList_copy_own hgd d s t t ho e E.ht hsz g off dLen dCap ⟨b, off', none⟩ sLen sCap hd hs cur.toArray t' hg (ys.take (min sLen dLen)) hcl (fun j v hv => ?_) (by rw [hcl]; simpa using hfit) (fun u hu => h1 u (List.mem_of_mem_take hu)) ?_
    · rw [addr_add]
      rw [List.getElem?_take] at hv
      split at hv
      · exact hx j v hv
      · cases hv
    · rw [hcl]
      have := h (w.setRow g (splice cur off (ys.take (min sLen dLen))).toArray) (setRow_heap w g cur.toArray _ t' _ hg) ⟨rfl, rfl, rfl, by simp, fun k _ hk => setRow_other w g k _ (fun e => hk (by rw [e]))⟩
      simpa [splice, hcl, goInt] using this

/-- A block that is known whole, as_ a row of the call's own. -/
theorem own_of_blk {w : World} {g n cap k : Nat} {cur : List Value} {t : TypeId} (hg : w.heap[g]? = some (.cells cur.toArray t (0, 0))) (hn : n ≤ cap) (hcap : cap ≤ 9223372036854775807) (hc : cur.length = cap * k) {base : Nat} (hb : base ≤ g) :
    w.ownsRow base t k (.slice (some ⟨g, 0, none⟩) n cap) n (cur.take (n * k)) := by
  have : n * k ≤ cap * k := Nat.mul_le_mul_right _ hn
  exact ⟨by rw [List.length_take]; omega, .inr ⟨g, cap, cur.toArray, rfl, hb, hg, hn, by simpa [maxLen] using hcap, by simpa using hc, by simp⟩⟩

end

end Go.Proofs.Ytfmhnplkpohogaa

namespace Go.Proofs.Ytfmhnplkpohogaa
open Go.RowKit

variable {S S' : Nat → Prop}

theorem grown_setC {a w : World} {n i : Nat} {u : Value} (h : a.grownBy w (some n)) : a.grownBy (w.setCell ⟨n, i, none⟩ u) (some n) :=
  ⟨h.os, h.tape, h.output, by simpa [World.setCell] using h.size, fun k hk hne => (Below.heap_setCell w ⟨n, i, none⟩ u k (fun e => hne (by rw [e]))).trans (h.block k hk hne)⟩
theorem grown_rfl (w : World) (row : Option Nat) : w.grownBy w row := ⟨rfl, rfl, rfl, Nat.le_refl _, fun _ _ _ => rfl⟩

theorem set4 {w : World} {n : Nat} {t : TypeId} {p q r s : Value} (hb : Blk w n t [p, q, r, s]) (a b c d : Value) :
    ∃ w', (((w.setCell ⟨n, 0, none⟩ a).setCell ⟨n, 1, none⟩ b).setCell ⟨n, 2, none⟩ c).setCell ⟨n, 3, none⟩ d = w' ∧ Blk w' n t [a, b, c, d] ∧ w.grownBy w' (some n) :=
  ⟨_, rfl, (((hb.set 0 a).set 1 b).set 2 c).set 3 d, grown_setC (grown_setC (grown_setC (grown_setC (grown_rfl _ _))))⟩
/-- What was there reads as_ it did, where a block of the call's own (from the world a on) has changed. -/
theorem Ext.grownN {a w w' : World} {n : Nat} (h : Ext a w) (hg : w.grownBy w' (some n)) (hn : a.heap.size ≤ n) : Ext a w' :=
  h.grown hg (fun k hk => by injection hk with hk; omega)
theorem own_grownN {w w' : World} {base : Nat} {e : TypeId} {k : Nat} {v : Value} {m : Nat} {xs : List Value} {n : Nat} (h : w.ownsRow base e k v m xs) (hg : w.grownBy w' (some n)) (hn : n < base) : w'.ownsRow base e k v m xs :=
  h.kept hg (by
    cases hv : v.ownBlock with
    | none => exact .inl rfl
    | some g =>
      refine .inr (fun e => ?_)
      injection e with e
      have := (h.lt g hv).1
      omega)
theorem Blk.grownN {w w' : World} {m n : Nat} {t : TypeId} {cs : List Value} (h : Blk w m t cs) (hg : w.grownBy w' (some n)) (hn : m ≠ n) : Blk w' m t cs :=
  h.grown hg (fun e => hn (by injection e))

theorem Blk.below {w w' : World} {B n : Nat} {t : TypeId} {cs : List Value} (h : Blk w n t cs) (hb : Below B w w') (hn : n < B) : Blk w' n t cs := (hb.block n hn).trans h
theorem own_below {w w' : World} {base : Nat} {e : TypeId} {k : Nat} {g m c : Nat} {xs : List Value} {B : Nat} (h : w.ownsRow base e k (.slice (some ⟨g, 0, none⟩) m c) m xs) (hb : Below B w w') (hg : g < B) : w'.ownsRow base e k (.slice (some ⟨g, 0, none⟩) m c) m xs := by
  refine ⟨h.1, ?_⟩
  rcases h.2 with ⟨h', h0⟩ | ⟨g', cap, cur, h', hb', hg', rest⟩
  · cases h'
  · cases h'
    exact .inr ⟨g, c, cur, rfl, hb', (hb.block g hg).trans hg', rest⟩
theorem Ext.belowN {a w w' : World} {B : Nat} (h : Ext a w) (hb : Below B w w') (hB : a.heap.size ≤ B) : Ext a w' := Below.trans h (hb.mono hB)

theorem own_blk {w : World} {base : Nat} {e : TypeId} {k : Nat} {g n c : Nat} {xs : List Value} (h : w.ownsRow base e k (.slice (some ⟨g, 0, none⟩) n c) n xs) : ∃ cur : List Value, Blk w g e cur ∧ cur.length = c * k ∧ cur.take (n * k) = xs := by
  rcases h.2 with ⟨h', h0⟩ | ⟨g', cap, cur, h', hb', hg', hn, hm, hc, ht⟩
  · cases h'
  · cases h'
    exact ⟨cur.toList, by unfold Blk; rw [hg'], by simpa using hc, ht⟩

/-- One element of a slice of slices of bytes. -/
theorem RBss.get {w : World} {A : Option Addr} {n cap : Nat} {l : List (List UInt8)} (h : RBss S w (.slice A n cap) l) {i : Nat} {x : List UInt8} (hi : l[i]? = some x) :
    ∃ b off A' c', A = some ⟨b, off, none⟩ ∧ b < w.heap.size ∧ w.cell? ⟨b, off + i, none⟩ = some (.slice A' x.length c') ∧ RBs S w (.slice A' x.length c') x ∧ x.length ≤ c' ∧ c' ≤ 9223372036854775807 := by
  obtain ⟨hl, rfl⟩ := List.getElem?_eq_some_iff.1 hi
  obtain ⟨hn, _, hx⟩ := h.at
  obtain ⟨b, off, ha, hb, hc⟩ := hx (by omega)
  obtain ⟨v, c1, c2⟩ := hc i hl
  obtain ⟨A', c', rfl, h1, h2⟩ := c2.form
  exact ⟨b, off, A', c', ha, hb, c1, c2, h1, h2⟩

theorem RSl.inS {α : Type} {k : Nat} {R : World → List Value → α → Prop} {w : World} {A : Option Addr} {n cap : Nat} {l : List α} (h : RSl S k R w (.slice A n cap) l) : 0 < n → ∃ b off, A = some ⟨b, off, none⟩ ∧ S b := by
  obtain ⟨A', cap', xs, hv, hc, hl, hr, h4⟩ := h
  cases hv
  exact h4

/-- The beginning of a slice. -/
theorem RSl.take {α : Type} {k : Nat} {R : World → List Value → α → Prop} {w : World} {A : Option Addr} {n cap : Nat} {l : List α} (h : RSl S k R w (.slice A n cap) l) {m c : Nat} (hm : m ≤ n) (hc : m ≤ c) (hc2 : c ≤ 9223372036854775807) : RSl S k R w (.slice A m c) (l.take m) := by
  have hSS := h.inS
  obtain ⟨hn, _, xs, ⟨h1, h2, h3⟩, hr⟩ := h.cel
  have hmk : m * k ≤ n * k := Nat.mul_le_mul_right _ hm
  have hl : (l.take m).length = m := by rw [List.length_take]; omega
  refine ⟨A, c, xs.take (m * k), by rw [hl], ⟨by omega, hc2⟩, ⟨by rw [List.length_take, hl]; omega, fun u hu => h2 u (List.mem_of_mem_take hu), fun h0 => ?_⟩, fun i hi => ?_, fun h0 => hSS (by omega)⟩
  · obtain ⟨b, off, ha, hb, hx⟩ := h3 (by omega)
    refine ⟨b, off, ha, hb, fun j u hu => hx j u ?_⟩
    rw [List.getElem?_take] at hu
    split at hu
    · exact hu
    · cases hu
  · have hi' : i < m := by omega
    have : chunk k (xs.take (m * k)) i = chunk k xs i := by
      unfold chunk
      have : (i + 1) * k ≤ m * k := Nat.mul_le_mul_right _ hi'
      rw [Nat.add_mul, Nat.one_mul] at this
      rw [List.drop_take, List.take_take]
      congr 1
      omega
    rw [this, List.getElem_take]
    exact hr i (by omega)

end Go.Proofs.Ytfmhnplkpohogaa

namespace Go.Proofs.Ytfmhnplkpohogaa
open Go.RowKit

variable {S S' : Nat → Prop}

/-- The blocks of S are as_ they were. -/
def Pres (S : Nat → Prop) (w w' : World) : Prop := w.heap.size ≤ w'.heap.size ∧ ∀ b, S b → b < w.heap.size → w'.heap[b]? = w.heap[b]?
theorem Pres.refl (w : World) : Pres S w w := ⟨Nat.le_refl _, fun _ _ _ => rfl⟩
theorem Pres.trans {a b c : World} (h : Pres S a b) (k : Pres S b c) : Pres S a c := ⟨Nat.le_trans h.1 k.1, fun n hn hl => (k.2 n hn (Nat.lt_of_lt_of_le hl h.1)).trans (h.2 n hn hl)⟩
theorem Pres.of_ext {a b : World} (h : Ext a b) : Pres S a b := ⟨h.size, fun n _ hl => h.below.block n hl⟩
theorem Pres.ext {a b c : World} (h : Pres S a b) (k : Ext b c) : Pres S a c := h.trans (Pres.of_ext k)
theorem Pres.alloc {a w : World} (h : Pres S a w) (o : Obj) : Pres S a (w.alloc o) := h.ext ((Ext.refl _).alloc _)
theorem Pres.drew {a w : World} (h : Pres S a w) : Pres S a w.drew := h.ext (Ext.refl w).drew
theorem Pres.setC {a w : World} (h : Pres S a w) {n i : Nat} (hn : ¬ S n) {u : Value} : Pres S a (w.setCell ⟨n, i, none⟩ u) :=
  ⟨by simpa [World.setCell] using h.1, fun b hb hl => (Below.heap_setCell w ⟨n, i, none⟩ u b (fun e => hn (by rw [← show b = n from e]; exact hb))).trans (h.2 b hb hl)⟩
theorem Pres.grownN {a w w' : World} {n : Nat} (h : Pres S a w) (hg : w.grownBy w' (some n)) (hn : ¬ S n) : Pres S a w' :=
  h.trans ⟨hg.size, fun b hb hl => hg.block b hl (fun e => hn (by injection e with e; rw [← e]; exact hb))⟩
theorem RBs.pres {w w' : World} {v : Value} {l : List UInt8} (h : RBs S w v l) (hp : Pres S w w') : RBs S w' v l := h.keep hp.1 hp.2
theorem RBss.pres {w w' : World} {v : Value} {l : List (List UInt8)} (h : RBss S w v l) (hp : Pres S w w') : RBss S w' v l := h.keep hp.1 hp.2

/-- A footprint may be cut down to the blocks that are there. -/
theorem RSl.subB {α : Type} {k : Nat} {R R' : World → List Value → α → Prop} {w : World} {v : Value} {l : List α} (h : RSl S k R w v l) (hs : ∀ b, b < w.heap.size → S b → S' b) (hR : ∀ cs x, R w cs x → R' w cs x) : RSl S' k R' w v l := by
  obtain ⟨A, cap, xs, hv, hc, hl, hr, h4⟩ := h
  refine ⟨A, cap, xs, hv, hc, hl, fun i hi => hR _ _ (hr i hi), fun h0 => ?_⟩
  obtain ⟨b, off, ha, hS⟩ := h4 h0
  obtain ⟨b', off', ha', hb', _⟩ := hl.2.2 h0
  rw [ha] at ha'
  cases ha'
  exact ⟨b, off, ha, hs b hb' hS⟩
theorem RBs.subB {w : World} {v : Value} {l : List UInt8} (h : RBs S w v l) (hs : ∀ b, b < w.heap.size → S b → S' b) : RBs S' w v l := RSl.subB h hs fun _ _ h => h
theorem RB1.subB {w : World} {cs : List Value} {l : List UInt8} (h : RB1 S w cs l) (hs : ∀ b, b < w.heap.size → S b → S' b) : RB1 S' w cs l := by
  obtain ⟨v, hv, h⟩ := h; exact ⟨v, hv, h.subB hs⟩
theorem RBss.subB {w : World} {v : Value} {l : List (List UInt8)} (h : RBss S w v l) (hs : ∀ b, b < w.heap.size → S b → S' b) : RBss S' w v l := RSl.subB h hs fun _ _ h => h.subB hs

theorem Blk.cel {w : World} {n : Nat} {t : TypeId} {cs : List Value} {k m : Nat} (h : Blk w n t cs) (hl : cs.length = m * k) (h1 : ∀ u ∈ cs, u.oneCell' = true) : Cel w k (some ⟨n, 0, none⟩) m cs :=
  ⟨hl, h1, fun _ => ⟨n, 0, rfl, h.lt, fun j u hu => by rw [Nat.zero_add, h.rule.1]; exact hu⟩⟩
theorem own_heap {w : World} {base : Nat} {e : TypeId} {k : Nat} {v : Value} {n : Nat} {xs : List Value} (h : w.ownsRow base e k v n xs) {g : Nat} (hg : v.ownBlock = some g) : ∃ cur, w.heap[g]? = some (.cells cur e (0, 0)) := by
  rcases h.2 with ⟨rfl, _⟩ | ⟨g', cap, cur, rfl, hb, hg', _⟩
  · cases hg
  · injection hg with hg
    subst hg
    exact ⟨cur, hg'⟩
theorem Blk.ne_tag {w : World} {b g : Nat} {t e : TypeId} {cs : List Value} {cur : Array Value} (h : Blk w b t cs) (hg : w.heap[g]? = some (.cells cur e (0, 0))) (hte : t ≠ e) : b ≠ g := by
  rintro rfl
  unfold Blk at h
  rw [hg] at h
  injection h with h
  injection h with _ h _
  exact hte h.symm

theorem grown_blk {w w' : World} {base : Nat} {e : TypeId} {k : Nat} {v : Value} {n : Nat} {xs : List Value} (ho : w.ownsRow base e k v n xs) (hg : w.grownBy w' v.ownBlock) {b : Nat} {t : TypeId} {cs : List Value} (h : Blk w b t cs) (hte : t ≠ e) : Blk w' b t cs := by
  refine h.grown hg (fun e1 => ?_)
  obtain ⟨cur, hc⟩ := own_heap ho e1.symm
  exact h.ne_tag hc hte rfl

section
variable {P : Program} {w : World} {ops : Array Oper} {o : Oper} {a : Act} {K : Act → World → Prop} {Q : Exit → Act → World → Prop} {E : Prop}

end

end Go.Proofs.Ytfmhnplkpohogaa

namespace Go.Proofs.Ytfmhnplkpohogaa
open Go.RowKit

section
variable {P : Program} {ops : Array Oper} {Q : Exit → Act → World → Prop} {i : Nat} {a : Act} {w : World} {o : Oper} {K : Act → World → Prop}

/-- New memory: a variable, a literal, a made slice. -/
theorem op_new (f : Nat → Value) (cs : List Value) (T : TypeId) (ho : ops[i]? = some o) (hw : Region.wanted o (yielded ops a.tmps) = true)
    (hr : (execOp a.eval o).run P w = .ok (.value (f w.heap.size)) (w.alloc (.cells cs.toArray T)))
    (h : ∀ g w', w.heap.size = g → w'.heap.size = g + 1 → Blk w' g T cs → Ext w w' → K (a.put o.dst (f g)) w') : wpOp P ops Q i K a w :=
  op_run ho hw hr (h _ _ rfl (by simp) (Blk.new w _ _ _ rfl) ((Ext.refl _).alloc _))

theorem op_app {t e : TypeId} {z : Value} {k bytes : Nat} (E : El P t e z k bytes) (ho : ops[i]? = some o) (hw : Region.wanted o (yielded ops a.tmps) = true) {s x : Operand}
    (hop : o.op = .call { callee := .builtin .append, args := #[s, x], argTypes := #[t, t] })
    {v : Value} (hs : a.eval s = v) {A : Option Addr} {m c : Nat} (hx : a.eval x = .slice A m c)
    {base n : Nat} {xs ys : List Value} (hown : w.ownsRow base e k v n xs) (hr : Cel w k A m ys) (hbase : base ≤ w.heap.size)
    (h63 : n + m ≤ 9223372036854775807) (hbytes : (n + m) * bytes ≤ 140737488355328)
    (h : ∀ v' w', w'.ownsRow base e k v' (n + m) (xs ++ ys) → w.grownBy w' v.ownBlock → (v'.ownBlock = v.ownBlock ∨ v'.ownBlock = some w.heap.size) → K (a.put o.dst v') w') : wpOp P ops Q i K a w := by
  obtain ⟨v', w', hrun, h2, h3, h4⟩ := run_app (P := P) (ty := o.type) (c := c) E hown hr h63 hbytes hbase
  refine op_wp ho hw ?_
  unfold Oper.wp execOp
  simp only [hop, resolve, invoke, builtin, Sem.run_bind, Sem.run_pure, Result.andThen_ok, List.map_toArray, List.map_cons, List.map_nil, hs, hx, hrun]
  exact h v' w' h2 h3 h4

/-- A whole variable is stored. -/
theorem op_store {ty : TypeId} {x y : Operand} (ho : ops[i]? = some o) (hw : Region.wanted o (yielded ops a.tmps) = true) (hop : o.op = .store ty x y) {g : Nat} {t : TypeId} {old cells : List Value}
    (hx : a.eval x = .pointer (some ⟨g, 0, none⟩)) (hy : a.eval y = .agg cells.toArray) (hg : Blk w g t old) (hi : (P.info? ty).map (·.size) = some cells.length) (hl : old.length = cells.length) (h1 : ∀ u ∈ cells, u.oneCell' = true)
    (h : ∀ w', Blk w' g t cells → w.grownBy w' (some g) → K (a.put o.dst undef) w') : wpOp P ops Q i K a w := by
  have hr := run_storeVar_row (P := P) w g t ty old.toArray cells.toArray hg (by simpa using hi) (by simpa using hl) (by simpa using h1)
  refine op_do (w' := w.setRow g cells.toArray) ho hw ?_ (h _ (setRow_heap w g old.toArray cells.toArray t _ hg) ⟨rfl, rfl, rfl, by simp, fun k _ hk => setRow_other w g k _ (fun e => hk (by rw [e]))⟩)
  unfold execOp
  simp only [hop, hx, hy, Instr.storeAt, Instr.sureAddr, Sem.run_bind, Sem.run_pure, Result.andThen_ok, hr]

/-- One cell of a variable is stored. -/
theorem op_store1 {ty : TypeId} {x y : Operand} (ho : ops[i]? = some o) (hw : Region.wanted o (yielded ops a.tmps) = true) (hop : o.op = .store ty x y) {g j : Nat} {t : TypeId} {old : List Value} {u : Value}
    (hx : a.eval x = .pointer (some ⟨g, j, none⟩)) (hy : a.eval y = u) (hg : Blk w g t old) (hi : (P.info? ty).map (·.size) = some 1) (hj : j < old.length) (h1 : u.oneCell' = true)
    (h : ∀ w', Blk w' g t (old.set j u) → w.grownBy w' (some g) → K (a.put o.dst undef) w') : wpOp P ops Q i K a w := by
  have hr : (storeVar ty ⟨g, j, none⟩ u).run P w = .ok () (w.setCell ⟨g, j, none⟩ u) := run_storeVar_cell hi h1 (by rw [hg.rule.1]; exact List.getElem?_eq_getElem hj) (hg.rule.2 j)
  refine op_do (w' := w.setCell ⟨g, j, none⟩ u) ho hw ?_ (h _ (hg.set j u) (grown_setC (grown_rfl _ _)))
  unfold execOp
  simp only [hop, hx, hy, Instr.storeAt, Instr.sureAddr, Sem.run_bind, Sem.run_pure, Result.andThen_ok, hr]
end
end Go.Proofs.Ytfmhnplkpohogaa

namespace Go.Proofs.Ytfmhnplkpohogaa
open Go.RowKit

/-- What a slot holds, by a list (the newest first). -/
def look : List (Nat × Value) → Nat → Option Value
  | [], _ => none
  | (k, v) :: r, t => cond (Nat.beq k t) (some v) (look r t)

/-- The frame has N slots, nothing is deferred, and the slots of m hold what m says. -/
def Sl (N : Nat) (m : List (Nat × Value)) (a : Act) : Prop := a.tmps.size = N ∧ a.defers = [] ∧ ∀ t v, look m t = some v → a.eval (.tmp t) = v

def aggTy : TypeDesc → Bool | .struct _ => true | .array _ _ => true | _ => false

variable {N : Nat} {m : List (Nat × Value)} {a : Act}

theorem Sl.get (h : Sl N m a) {t : Nat} {v : Value} (e : look m t = some v) : a.eval (.tmp t) = v := h.2.2 t v e
theorem Sl.put (h : Sl N m a) {d : Nat} {v : Value} (hd : Nat.blt d N = true) : Sl N ((d, v) :: m) (a.put (some d) v) := by
  obtain ⟨h1, h2, h3⟩ := h
  have hd : d < a.tmps.size := by rw [h1]; simpa [Nat.blt_eq] using hd
  refine ⟨by simp [Act.put, h1], by simp [Act.put, h2], fun t u ht => ?_⟩
  simp only [look] at ht
  simp only [Act.eval, Act.put, Array.getD_eq_getD_getElem?, Array.getElem?_setIfInBounds]
  by_cases hdt : d = t
  · subst hdt
    rw [Nat.beq_refl] at ht
    injection ht with ht
    subst ht
    simp [hd]
  · have : Nat.beq d t = false := by rw [← Bool.not_eq_true]; simpa [Nat.beq_eq] using hdt
    rw [this] at ht
    rw [if_neg hdt]
    have := h3 t u ht
    simpa [Act.eval, Array.getD_eq_getD_getElem?] using this
theorem Sl.none (h : Sl N m a) {v : Value} : Sl N m (a.put Option.none v) := h
theorem Sl.nil (h : Sl N m a) : Sl N [] a := ⟨h.1, h.2.1, fun _ _ e => by cases e⟩
theorem Sl.cons {m' : List (Nat × Value)} (h : Sl N m' a) {t : Nat} {v : Value} (e : a.eval (.tmp t) = v) : Sl N ((t, v) :: m') a := by
  refine ⟨h.1, h.2.1, fun s u hs => ?_⟩
  simp only [look] at hs
  by_cases hst : t = s
  · subst hst
    rw [Nat.beq_refl] at hs
    injection hs with hs
    rw [← hs]; exact e
  · have : Nat.beq t s = false := by rw [← Bool.not_eq_true]; simpa [Nat.beq_eq] using hst
    rw [this] at hs
    exact h.2.2 s u hs
/-- The frame in which a call begins. -/
theorem Sl.start (args : Array Value) (n : Nat) : Sl (args.size + n) [] { tmps := args ++ Array.replicate n undef, defers := [] } := ⟨by simp, rfl, fun _ _ e => by cases e⟩
def argList : Nat → List Value → List (Nat × Value)
  | _, [] => []
  | k, v :: r => (k, v) :: argList (k + 1) r
theorem look_args : ∀ (l : List Value) (k t : Nat) (v : Value), look (argList k l) t = some v → k ≤ t ∧ l[t - k]? = some v
  | [], _, _, _, h => by cases h
  | u :: l, k, t, v, h => by
    simp only [argList, look] at h
    by_cases hk : k = t
    · subst hk
      rw [Nat.beq_refl] at h
      simpa using h
    · have : Nat.beq k t = false := by rw [← Bool.not_eq_true]; simpa [Nat.beq_eq] using hk
      rw [this] at h
      obtain ⟨h1, h2⟩ := look_args l (k + 1) t v h
      exact ⟨by omega, by rw [show t - k = (t - (k + 1)) + 1 from by omega]; simpa using h2⟩
theorem Sl.args (l : List Value) (n N : Nat) (hN : l.length + n = N) : Sl N (argList 0 l) { tmps := l.toArray ++ Array.replicate n undef, defers := [] } := by
  refine ⟨by simp [hN], rfl, fun t v e => ?_⟩
  obtain ⟨_, h⟩ := look_args l 0 t v e
  rw [Nat.sub_zero] at h
  have hl := (List.getElem?_eq_some_iff.1 h).1
  simp only [Act.eval, Array.getD_eq_getD_getElem?]
  rw [Array.getElem?_append_left (by simpa using hl)]
  simp [h]

theorem calls_enter {P : Program} {f : FuncId} {fn : Func} {c : Code} {l : List Value} {w : World} {R : Ending → World → Prop} (hf : P.funcs[f]? = some fn) (hb : fn.body = some c) (hn : fn.ntmps = N) (hl : Nat.ble l.length N = true)
    (h : ∀ a, Sl N (argList 0 l) a → c.wp P (bodyPost P fn R) a w) : Calls P f l.toArray w R := by
  refine calls_of_wp hf hb (h _ ?_)
  rw [hn]
  refine Sl.args l _ N ?_
  have : l.length ≤ N := by simpa using hl
  simp; omega

section
variable {P : Program} {ops : Array Oper} {Q : Exit → Act → World → Prop} {S : World → Prop} {F : Nat → Bool} {i : Nat} {w w' : World} {o : Oper} {v : Value} {K : Act → World → Prop} {d : Nat}

theorem wanted_guard {j dj : Nat} {b x : Bool} {oj : Oper} (hg : o.guard = some (j, b)) (hj : ops[j]? = some oj) (hd : oj.dst = some dj) (hF : Sl N m a) {y : Bool} (hv : look m dj = some (.bool y)) (hy : y = x) (hb : (x == b) = true) : Region.wanted o (yielded ops a.tmps) = true := by
  subst hy
  have h := hF.get hv
  simp only [Act.eval, Array.getD_eq_getD_getElem?] at h
  have h2 : a.tmps[dj]? = some (.bool y) := by
    cases hc : a.tmps[dj]? with
    | none => rw [hc] at h; cases h
    | some u => rw [hc] at h; rw [← h]; rfl
  have hb : y = b := by simpa using hb
  simp [Region.wanted, hg, yielded, hj, hd, h2, hb]
theorem unwanted_guard {j dj : Nat} {b x : Bool} {oj : Oper} (hg : o.guard = some (j, b)) (hj : ops[j]? = some oj) (hd : oj.dst = some dj) (hF : Sl N m a) {y : Bool} (hv : look m dj = some (.bool y)) (hy : y = x) (hb : (x == b) = false) : Region.wanted o (yielded ops a.tmps) = false := by
  subst hy
  have h := hF.get hv
  simp only [Act.eval, Array.getD_eq_getD_getElem?] at h
  have h2 : a.tmps[dj]? = some (.bool y) := by
    cases hc : a.tmps[dj]? with
    | none => rw [hc] at h; cases h
    | some u => rw [hc] at h; rw [← h]; rfl
  have hb : y ≠ b := by simpa using hb
  simp [Region.wanted, hg, yielded, hj, hd, h2, hb]

theorem wpl_op {rest : List Oper} (ho : ops[i]? = some o) (h : wpOp P ops Q i (wpList P ops Q rest) a w) : wpList P ops Q (o :: rest) a w := by
  unfold wpOp at h
  rw [ho] at h
  exact h

/-- A value, the world as_ it was. -/
theorem o_val (hF : Sl N m a) (ho : ops[i]? = some o) (hw : Region.wanted o (yielded ops a.tmps) = true) (hd : o.dst = some d) (hN : Nat.blt d N = true)
    (hr : (execOp a.eval o).run P w = .ok (.value v) w) (h : ∀ a', Sl N ((d, v) :: m) a' → K a' w) : wpOp P ops Q i K a w :=
  op_run ho hw hr (h _ (by rw [hd]; exact hF.put hN))
theorem o_skip (hF : Sl N m a) (ho : ops[i]? = some o) (hw : Region.wanted o (yielded ops a.tmps) = false) (hd : o.dst = some d) (hN : Nat.blt d N = true)
    (h : ∀ a', Sl N ((d, undef) :: m) a' → K a' w) : wpOp P ops Q i K a w := by
  unfold wpOp
  rw [ho]
  simp only [hw]
  exact h _ (by rw [hd]; exact hF.put hN)
/-- New memory. -/
theorem o_new (f : Nat → Value) (cs : List Value) (T : TypeId) (hF : Sl N m a) (ho : ops[i]? = some o) (hw : Region.wanted o (yielded ops a.tmps) = true) (hd : o.dst = some d) (hN : Nat.blt d N = true)
    (hr : (execOp a.eval o).run P w = .ok (.value (f w.heap.size)) (w.alloc (.cells cs.toArray T)))
    (h : ∀ g w' a', Sl N ((d, f g) :: m) a' → w.heap.size = g → w'.heap.size = g + 1 → Blk w' g T cs → Ext w w' → K a' w') : wpOp P ops Q i K a w :=
  op_new f cs T ho hw hr fun g w' h1 h2 h3 h4 => h g w' _ (by rw [hd]; exact hF.put hN) h1 h2 h3 h4
theorem o_store {ty : TypeId} {x y : Operand} (_hF : Sl N m a) (ho : ops[i]? = some o) (hw : Region.wanted o (yielded ops a.tmps) = true) (hd : o.dst = none) (hop : o.op = .store ty x y) {g : Nat} {t : TypeId} {old cells : List Value}
    (hx : a.eval x = .pointer (some ⟨g, 0, none⟩)) (hy : a.eval y = .agg cells.toArray) (hg : Blk w g t old) (hi : (P.info? ty).map (·.size) = some cells.length) (hl : old.length = cells.length) (h1 : ∀ u ∈ cells, u.oneCell' = true)
    (h : ∀ w', Blk w' g t cells → w.grownBy w' (some g) → K a w') : wpOp P ops Q i K a w :=
  op_store ho hw hop hx hy hg hi hl h1 fun w' h1 h2 => by rw [hd]; exact h w' h1 h2
theorem o_store1 {ty : TypeId} {x y : Operand} (_hF : Sl N m a) (ho : ops[i]? = some o) (hw : Region.wanted o (yielded ops a.tmps) = true) (hd : o.dst = none) (hop : o.op = .store ty x y) {g j : Nat} {t : TypeId} {old : List Value} {u : Value}
    (hx : a.eval x = .pointer (some ⟨g, j, none⟩)) (hy : a.eval y = u) (hg : Blk w g t old) (hi : (P.info? ty).map (·.size) = some 1) (hj : j < old.length) (h1 : u.oneCell' = true) {new : List Value} (hn : old.set j u = new)
    (h : ∀ w', Blk w' g t new → w.grownBy w' (some g) → K a w') : wpOp P ops Q i K a w :=
  op_store1 ho hw hop hx hy hg hi hj h1 fun w' h1 h2 => by rw [hd]; exact h w' (hn ▸ h1) h2
/-- A store into a row of the call's own. -/
theorem o_storeRow {ty : TypeId} {x y : Operand} (_hF : Sl N m a) (ho : ops[i]? = some o) (hw : Region.wanted o (yielded ops a.tmps) = true) (hd : o.dst = none) (hop : o.op = .store ty x y) {g j : Nat} {u : Value} {base n cap : Nat} {e : TypeId} {xs : List Value}
    (hx : a.eval x = .pointer (some ⟨g, j, none⟩)) (hy : a.eval y = u) (hown : w.ownsRow base e 1 (.slice (some ⟨g, 0, none⟩) n cap) n xs) (hi : (P.info? ty).map (·.size) = some 1) (hj : j < n) (h1 : u.oneCell' = true)
    (h : ∀ w', w'.ownsRow base e 1 (.slice (some ⟨g, 0, none⟩) n cap) n (xs.set j u) → w.grownBy w' (some g) → K a w') : wpOp P ops Q i K a w := by
  have hl : xs.length = n := by have := hown.1; omega
  have hr : (storeVar ty ⟨g, j, none⟩ u).run P w = .ok () (w.setCell ⟨g, j, none⟩ u) := run_storeVar_cell hi h1 (by rw [hown.cellAt j (by omega)]; exact List.getElem?_eq_getElem (by omega)) (hown.frozenAt j)
  refine op_do (w' := w.setCell ⟨g, j, none⟩ u) ho hw ?_ (by rw [hd]; exact h _ (hown.stored j u).1 (hown.stored j u).2)
  unfold execOp
  simp only [hop, hx, hy, Instr.storeAt, Instr.sureAddr, Sem.run_bind, Sem.run_pure, Result.andThen_ok, hr]
theorem o_call (hF : Sl N m a) (ho : ops[i]? = some o) (hw : Region.wanted o (yielded ops a.tmps) = true) (hd : o.dst = some d) (hN : Nat.blt d N = true) {f : FuncId} {args : Array Value} (hr : (execOp a.eval o).run P w = .ok (.enter f args) w)
    {R : Ending → World → Prop} (hc : Calls P f args w R) (h : ∀ e w', R e w' → ∃ v, e = .returned v ∧ ∀ a', Sl N ((d, v) :: m) a' → K a' w') : wpOp P ops Q i K a w :=
  op_call ho hw hr hc fun e w' hR => by
    obtain ⟨v, he, hk⟩ := h e w' hR
    exact ⟨v, he, hk _ (by rw [hd]; exact hF.put hN)⟩

/-- A light one of a region that draws its order. -/
theorem any_val {n : Nat} {L L' : Array Bool} (hF : Sl N m a) (hs : Region.noSelect ops = true) (hb : lightB ops F L i = true) (hL : L.setIfInBounds i true = L') (ho : ops[i]? = some o) (hd : o.dst = some d) (hN : Nat.blt d N = true)
    (hQ : ∀ c a w v, Q (.panic c) (a.put (some d) v) w → Q (.panic c) a w) (hw : Region.wanted o (yielded ops a.tmps) = true) (hS : S w)
    (hr : ∀ W, S W → (execOp a.eval o).run P W = .ok (.value v) W) (h : ∀ a', Sl N ((d, v) :: m) a' → wpAnyF P ops Q S F n L' a' w) : wpAnyF P ops Q S F (n + 1) L a w :=
  any_light hs hb hL ho (by rw [hd]; exact fun c a w => hQ c a w _) hw hS hr (h _ (by rw [hd]; exact hF.put hN))
theorem any_pure {n : Nat} {L L' : Array Bool} (hF : Sl N m a) (hs : Region.noSelect ops = true) (hb : freeB ops L i = true) (hL : L.setIfInBounds i true = L') (ho : ops[i]? = some o) (hd : o.dst = some d) (hN : Nat.blt d N = true)
    (hQ : ∀ c a w v, Q (.panic c) (a.put (some d) v) w → Q (.panic c) a w) (hw : Region.wanted o (yielded ops a.tmps) = true)
    (hr : ∀ W, (execOp a.eval o).run P W = .ok (.value v) W) (h : ∀ a', Sl N ((d, v) :: m) a' → wpAnyF P ops Q S F n L' a' w) : wpAnyF P ops Q S F (n + 1) L a w :=
  any_pureY hs hb hL ho (by rw [hd]; exact fun c a w => hQ c a w _) (.inl ⟨hw, hr⟩) (h _ (by rw [hd]; exact hF.put hN))
theorem any_pass {n : Nat} {L L' : Array Bool} (hF : Sl N m a) (hs : Region.noSelect ops = true) (hb : freeB ops L i = true) (hL : L.setIfInBounds i true = L') (ho : ops[i]? = some o) (hd : o.dst = some d) (hN : Nat.blt d N = true)
    (hQ : ∀ c a w v, Q (.panic c) (a.put (some d) v) w → Q (.panic c) a w) (hw : Region.wanted o (yielded ops a.tmps) = false)
    (h : ∀ a', Sl N ((d, undef) :: m) a' → wpAnyF P ops Q S F n L' a' w) : wpAnyF P ops Q S F (n + 1) L a w :=
  any_pureY hs hb hL ho (by rw [hd]; exact fun c a w => hQ c a w _) (.inr ⟨hw, rfl⟩) (h _ (by rw [hd]; exact hF.put hN))
end

section
variable {P : Program} {ρ : Operand → Value} {W : World} {d : Option Tmp} {t : TypeId} {p : String} {af : Array Edge} {g : Option (Nat × Bool)} {v : Value}
theorem rn_move {x : Operand} (hx : ρ x = v) : (execOp ρ ⟨d, .move x, t, p, af, g⟩).run P W = .ok (.value v) W := by simp [execOp, hx]
theorem rn_assign {x : Operand} (hx : ρ x = v) : (execOp ρ ⟨d, .assign x, t, p, af, g⟩).run P W = .ok (.value v) W := by simp [execOp, hx]
theorem rn_pickT {c x y : Operand} (hc : ρ c = .bool true) (hx : ρ x = v) : (execOp ρ ⟨d, .pick c x y, t, p, af, g⟩).run P W = .ok (.value v) W := by simp [execOp, hc, hx, asBool]
theorem rn_pickF {c x y : Operand} (hc : ρ c = .bool false) (hy : ρ y = v) : (execOp ρ ⟨d, .pick c x y, t, p, af, g⟩).run P W = .ok (.value v) W := by simp [execOp, hc, hy, asBool]
theorem rn_extract {x : Operand} {n : Nat} {vs : Array Value} (hx : ρ x = .tuple vs) (hv : vs[n]? = some v) : (execOp ρ ⟨d, .extract x n, t, p, af, g⟩).run P W = .ok (.value v) W := by
  simp [execOp, hx, Instr.extract, hv]
theorem rn_not' {x : Operand} {s : TypeId} {b r : Bool} (hx : ρ x = .bool b) (hr : (!b) = r) : (execOp ρ ⟨d, .unOp .not s x, t, p, af, g⟩).run P W = .ok (.value (.bool r)) W := by subst hr; simp [execOp, hx, Op.unary]
/-- An operation on two values, by its run. -/
theorem rn_bin {b : BinOp} {xt yt : TypeId} {x y : Operand} {u1 u2 : Value} (hx : ρ x = u1) (hy : ρ y = u2) (hg : (eqGuard b xt x y u1 u2).run P W = .ok () W) (hr : (binOp b xt u1 u2).run P W = .ok v W) : (execOp ρ ⟨d, .binOp b xt x y yt, t, p, af, g⟩).run P W = .ok (.value v) W := by
  simp [execOp, hx, hy, hg, hr]
theorem guard_int {b : BinOp} {xt : TypeId} {x y : Operand} {k1 k2 : IntKind} {n1 n2 : Int} : (eqGuard b xt x y (.int k1 n1) (.int k2 n2)).run P W = .ok () W := by
  unfold eqGuard; cases b <;> simp <;> rfl
theorem guard_bool {b : BinOp} {xt : TypeId} {x y : Operand} {b1 b2 : Bool} : (eqGuard b xt x y (.bool b1) (.bool b2)).run P W = .ok () W := by
  unfold eqGuard; cases b <;> simp <;> rfl
theorem guard_str {b : BinOp} {xt : TypeId} {x y : Operand} {b1 b2 : ByteArray} : (eqGuard b xt x y (.string b1) (.string b2)).run P W = .ok () W := by
  unfold eqGuard; cases b <;> simp <;> rfl
section
variable {xt yt : TypeId} {x y : Operand} {k : IntKind} {n1 n2 n3 : Int}
theorem rn_lss (hx : ρ x = .int k n1) (hy : ρ y = .int k n2) : (execOp ρ ⟨d, .binOp .lss xt x y yt, t, p, af, g⟩).run P W = .ok (.value (.bool (decide (n1 < n2)))) W := rn_bin hx hy guard_int (by simp [binOp, Op.intCmp])
theorem rn_leq (hx : ρ x = .int k n1) (hy : ρ y = .int k n2) : (execOp ρ ⟨d, .binOp .leq xt x y yt, t, p, af, g⟩).run P W = .ok (.value (.bool (decide (n1 ≤ n2)))) W := rn_bin hx hy guard_int (by simp [binOp, Op.intCmp])
theorem rn_gtr (hx : ρ x = .int k n1) (hy : ρ y = .int k n2) : (execOp ρ ⟨d, .binOp .gtr xt x y yt, t, p, af, g⟩).run P W = .ok (.value (.bool (decide (n2 < n1)))) W := rn_bin hx hy guard_int (by simp [binOp, Op.intCmp])
theorem rn_geq (hx : ρ x = .int k n1) (hy : ρ y = .int k n2) : (execOp ρ ⟨d, .binOp .geq xt x y yt, t, p, af, g⟩).run P W = .ok (.value (.bool (decide (n2 ≤ n1)))) W := rn_bin hx hy guard_int (by simp [binOp, Op.intCmp])
theorem rn_eql (hx : ρ x = .int k n1) (hy : ρ y = .int k n2) : (execOp ρ ⟨d, .binOp .eql xt x y yt, t, p, af, g⟩).run P W = .ok (.value (.bool (decide (n1 = n2)))) W := rn_bin hx hy guard_int (by simp [binOp, Op.intCmp]; rw [Bool.eq_iff_iff]; simp)
theorem rn_neq (hx : ρ x = .int k n1) (hy : ρ y = .int k n2) : (execOp ρ ⟨d, .binOp .neq xt x y yt, t, p, af, g⟩).run P W = .ok (.value (.bool (decide (n1 ≠ n2)))) W := rn_bin hx hy guard_int (by simp [binOp, Op.intCmp]; rw [Bool.eq_iff_iff]; simp)
theorem rn_eql' {r : Bool} (hx : ρ x = .int k n1) (hy : ρ y = .int k n2) (hr : decide (n1 = n2) = r) : (execOp ρ ⟨d, .binOp .eql xt x y yt, t, p, af, g⟩).run P W = .ok (.value (.bool r)) W := hr ▸ rn_eql hx hy
theorem rn_neq' {r : Bool} (hx : ρ x = .int k n1) (hy : ρ y = .int k n2) (hr : decide (n1 ≠ n2) = r) : (execOp ρ ⟨d, .binOp .neq xt x y yt, t, p, af, g⟩).run P W = .ok (.value (.bool r)) W := hr ▸ rn_neq hx hy
theorem rn_add (hx : ρ x = .int .i64 n1) (hy : ρ y = .int .i64 n2) (hb : -9223372036854775808 ≤ n1 + n2 ∧ n1 + n2 ≤ 9223372036854775807) (he : n1 + n2 = n3) : (execOp ρ ⟨d, .binOp .add xt x y yt, t, p, af, g⟩).run P W = .ok (.value (.int .i64 n3)) W :=
  rn_bin hx hy guard_int (by subst he; simp [binOp, Op.intArith, IntWalk.i64_in _ hb])
theorem rn_sub (hx : ρ x = .int .i64 n1) (hy : ρ y = .int .i64 n2) (hb : -9223372036854775808 ≤ n1 - n2 ∧ n1 - n2 ≤ 9223372036854775807) (he : n1 - n2 = n3) : (execOp ρ ⟨d, .binOp .sub xt x y yt, t, p, af, g⟩).run P W = .ok (.value (.int .i64 n3)) W :=
  rn_bin hx hy guard_int (by subst he; simp [binOp, Op.intArith, IntWalk.i64_in _ hb])
theorem rn_mul (hx : ρ x = .int .i64 n1) (hy : ρ y = .int .i64 n2) (hb : -9223372036854775808 ≤ n1 * n2 ∧ n1 * n2 ≤ 9223372036854775807) (he : n1 * n2 = n3) : (execOp ρ ⟨d, .binOp .mul xt x y yt, t, p, af, g⟩).run P W = .ok (.value (.int .i64 n3)) W :=
  rn_bin hx hy guard_int (by subst he; simp [binOp, Op.intArith, IntWalk.i64_in _ hb])
end
theorem rn_index1 {s e : TypeId} {x y : Operand} {b off len cap : Nat} {kd : IntKind} {n : Int} (hu : P.underlying s = some (.slice e)) (hi : (P.info? e).map (·.size) = some 1) (hx : ρ x = .slice (some ⟨b, off, none⟩) len cap) (hy : ρ y = .int kd n) (h0 : 0 ≤ n) (h1 : n < len) :
    (execOp ρ ⟨d, .indexAddr s x y, t, p, af, g⟩).run P W = .ok (.value (.pointer (some ⟨b, off + n.toNat, none⟩))) W := by
  cases hq : P.info? e with
  | none => simp [hq] at hi
  | some i =>
    have hs : i.size = 1 := by simpa [hq] using hi
    simp [execOp, Instr.indexAt, hx, hy, asIntOf, run_underlying hu, sizeOf, typeInfo, hq, hs, h0, h1, addr_add]
/-- A call of a function of the program. -/
theorem rn_call {f : FuncId} {xs : Array Operand} {ts : Array TypeId} {vs : Array Value} (ha : xs.map ρ = vs) (hf : ρ (.func f) = .func (.func f) #[] #[]) (hc : (callFunc f vs).run P W = .ok (.enter f vs) W) :
    (execOp ρ ⟨d, .call { callee := .value (.func f), args := xs, argTypes := ts }, t, p, af, g⟩).run P W = .ok (.enter f vs) W := by
  simp [execOp, resolve, hf, ha, Deferred.ofValue, invoke, hc]
theorem rn_len_slice {x : Operand} {s e : TypeId} {A : Option Addr} {n c : Nat} (hu : P.underlying s = some (.slice e)) (hx : ρ x = .slice A n c) : (execOp ρ ⟨d, .call { callee := .builtin .len, args := #[x], argTypes := #[s] }, t, p, af, g⟩).run P W = .ok (.value (.int .i64 n)) W := by
  simp [execOp, resolve, invoke, builtin, hx, Builtin.len_, goInt, run_underlying hu]
/-- A struct is built of its parts. -/
theorem rn_build {s : TypeId} {ps : Array (Nat × Operand)} {vs : Array (Nat × Value)} (hp : ps.map (fun x => (x.1, ρ x.2)) = vs) (hb : (Instr.build s vs).run P W = .ok v W) : (execOp ρ ⟨d, .build s ps, t, p, af, g⟩).run P W = .ok (.value v) W := by
  have : (ps.map fun (i, x) => (i, ρ x)) = vs := hp
  simp [execOp, this, hb]
theorem rn_buildSlice {s : TypeId} {n : Nat} {ps : Array (Nat × Operand)} {vs : Array (Nat × Value)} {W' : World} (hp : ps.map (fun x => (x.1, ρ x.2)) = vs) (hb : (Instr.buildSlice s n vs).run P W = .ok v W') : (execOp ρ ⟨d, .buildSlice s n ps, t, p, af, g⟩).run P W = .ok (.value v) W' := by
  have : (ps.map fun (i, x) => (i, ρ x)) = vs := hp
  simp [execOp, this, hb]
theorem rn_box {s : TypeId} {x : Operand} {u : Value} {W' : World} (hx : ρ x = u) (hb : (Instr.box s u).run P W = .ok v W') : (execOp ρ ⟨d, .box s x, t, p, af, g⟩).run P W = .ok (.value v) W' := by
  simp [execOp, hx, hb]
/-- A whole variable is loaded. -/
theorem rn_loadBlk {s tt : TypeId} {x : Operand} {b : Nat} {cs : List Value} {td : TypeDesc} (hx : ρ x = .pointer (some ⟨b, 0, none⟩)) (hB : Blk W b tt cs) (hu : P.underlying s = some td) (hd : aggTy td = true) (hi : (P.info? s).map (·.size) = some cs.length) :
    (execOp ρ ⟨d, .load s x, t, p, af, g⟩).run P W = .ok (.value (.agg cs.toArray)) W := by
  have := run_loadVar_row (P := P) W b tt s cs.toArray (0, 0) td hB hu (by cases td <;> simp_all [aggTy]) (by simpa using hi)
  simp [execOp, Instr.loadAt, Instr.sureAddr, hx, this]
end

theorem ret1 {P : Program} {fn : Func} {R : Ending → World → Prop} {w : World} {t : Nat} {v : Value} (hF : Sl N m a) (hr : fn.results = #[.tmp t]) (hv : look m t = some v) (h : R (.returned v) w) : bodyPost P fn R .ret a w :=
  bodyPost_ret (results_tmp hr _ _ _) hF.2.1 (by have := hF.get hv; simp only [Act.eval] at this; rw [this]; exact h)
/-- A struct in a block, and a slot. -/
theorem retC1 {P : Program} {fn : Func} {R : Ending → World → Prop} {w : World} {t u b : Nat} {ty tt : TypeId} {cs : List Value} {v2 : Value} {td : TypeDesc} (hF : Sl N m a) (hr : fn.results = #[.cell t ty, .tmp u]) (hv : look m t = some (.pointer (some ⟨b, 0, none⟩))) (hu : look m u = some v2)
    (hB : Blk w b tt cs) (hty : P.underlying ty = some td) (hd : aggTy td = true) (hi : (P.info? ty).map (·.size) = some cs.length) (h : R (.returned (.tuple #[.agg cs.toArray, v2])) w) : bodyPost P fn R .ret a w := by
  have h1 := hF.get hv
  have h2 := hF.get hu
  simp only [Act.eval] at h1 h2
  refine bodyPost_ret ?_ hF.2.1 h
  have := run_loadVar_row (P := P) w b tt ty cs.toArray (0, 0) td hB hty (by cases td <;> simp_all [aggTy]) (by simpa using hi)
  rw [Array.getD_eq_getD_getElem?] at h1 h2
  simp [results, hr, h1, h2, asAddr, this]
theorem q_get {t : Nat} {u v : Value} (hF : Sl N m a) (e : look m t = some u) (h : u = v) : a.eval (.tmp t) = v := (hF.get e).trans h
theorem not_t {b : Bool} (h : b = true) : (!b) = false := by rw [h]; rfl
theorem not_f {b : Bool} (h : b = false) : (!b) = true := by rw [h]; rfl
section
variable {P : Program} {ρ : Operand → Value} {W : World} {d : Option Tmp} {t : TypeId} {p : String} {af : Array Edge} {g : Option (Nat × Bool)} {v : Value}
theorem rn_make {s : TypeId} {x y : Operand} {u1 u2 : Value} {W' : World} (hx : ρ x = u1) (hy : ρ y = u2) (hb : (Instr.makeSlice s u1 u2).run P W = .ok v W') : (execOp ρ ⟨d, .makeSlice s x y, t, p, af, g⟩).run P W = .ok (.value v) W' := by
  simp [execOp, hx, hy, hb]
end
section
variable {ρ : Operand → Value} {x0 x1 x2 x3 x4 x5 : Operand} {v0 v1 v2 v3 v4 v5 : Value}
theorem args0 : (#[] : Array Operand).map ρ = #[] := by simp
theorem args1 (h0 : ρ x0 = v0) : #[x0].map ρ = #[v0] := by simp [h0]
theorem args2 (h0 : ρ x0 = v0) (h1 : ρ x1 = v1) : #[x0, x1].map ρ = #[v0, v1] := by simp [h0, h1]
theorem args3 (h0 : ρ x0 = v0) (h1 : ρ x1 = v1) (h2 : ρ x2 = v2) : #[x0, x1, x2].map ρ = #[v0, v1, v2] := by simp [h0, h1, h2]
theorem args4 (h0 : ρ x0 = v0) (h1 : ρ x1 = v1) (h2 : ρ x2 = v2) (h3 : ρ x3 = v3) : #[x0, x1, x2, x3].map ρ = #[v0, v1, v2, v3] := by simp [h0, h1, h2, h3]
variable {i0 i1 i2 i3 : Nat}
theorem parts0 : (#[] : Array (Nat × Operand)).map (fun x => (x.1, ρ x.2)) = #[] := by simp
theorem parts1 (h0 : ρ x0 = v0) : #[(i0, x0)].map (fun x => (x.1, ρ x.2)) = #[(i0, v0)] := by simp [h0]
theorem parts2 (h0 : ρ x0 = v0) (h1 : ρ x1 = v1) : #[(i0, x0), (i1, x1)].map (fun x => (x.1, ρ x.2)) = #[(i0, v0), (i1, v1)] := by simp [h0, h1]
end

section
variable {P : Program} {Q : Exit → Act → World → Prop} {w : World} {id id' : Nat}
theorem exit_here (h : Q .normal a w) : Exit.inBlock id Q (.exit id) a w := by simp only [Exit.inBlock, if_true]; exact h
theorem exit_past (hn : id' ≠ id) (h : Q (.exit id') a w) : Exit.inBlock id Q (.exit id') a w := by simp only [Exit.inBlock, if_neg hn]; exact h
theorem c_true {t : Nat} {b : Bool} (hF : Sl N m a) (hv : look m t = some (.bool b)) (hb : b = true) : a.eval (.tmp t) = .bool true := by subst hb; exact hF.get hv
theorem c_false {t : Nat} {b : Bool} (hF : Sl N m a) (hv : look m t = some (.bool b)) (hb : b = false) : a.eval (.tmp t) = .bool false := by subst hb; exact hF.get hv
end

end Go.Proofs.Ytfmhnplkpohogaa

namespace Go.Proofs.Ytfmhnplkpohogaa
open Go.RowKit

theorem exit_then {K : Act → World → Prop} {Q : Exit → Act → World → Prop} {a : Act} {w : World} {id : Nat} (h : Q (.exit id) a w) : Exit.then K Q (.exit id) a w := h

section
variable {P : Program} {ρ : Operand → Value} {W : World} {d : Option Tmp} {t : TypeId} {p : String} {af : Array Edge} {g : Option (Nat × Bool)} {v : Value}

theorem add_zero_addr (A : Option Addr) : A.map (fun a => a.add 0) = A := by cases A <;> simp [Addr.add]
theorem size_of {e : TypeId} {k : Nat} (hi : (P.info? e).map (·.size) = some k) : (sizeOf e).run P W = .ok k W := by
  cases hq : P.info? e with
  | none => simp [hq] at hi
  | some i => simp [hq] at hi; simp [sizeOf, typeInfo, hq, hi]
theorem bound_ok {k : IntKind} {n : Int} {y : Nat} {code : BoundsCode} (h0 : 0 ≤ n) (h1 : n ≤ y) : (Instr.sliceBound (.int k n) y code).run P W = .ok n.toNat W := by
  simp [Instr.sliceBound, asIntOf, h0, h1]
/-- x[:hi] -/
theorem rn_sliceHi {s e : TypeId} {x y : Operand} {A : Option Addr} {n c sz : Nat} {k : IntKind} {h : Int} (hu : P.underlying s = some (.slice e)) (hi : (P.info? e).map (·.size) = some sz) (hx : ρ x = .slice A n c) (hy : ρ y = .int k h) (h0 : 0 ≤ h) (h1 : h ≤ c) :
    (execOp ρ ⟨d, .slice s x none (some y) none, t, p, af, g⟩).run P W = .ok (.value (.slice A h.toNat c)) W := by
  have hz := add_zero_addr A
  simp [execOp, Instr.sliceAt, Instr.slice, Instr.sliceBounds, run_underlying hu, hx, hy, bound_ok h0 h1, size_of hi, hz]
/-- x[lo:] -/
theorem rn_sliceLo {s e : TypeId} {x y : Operand} {b off n c sz l : Nat} {k : IntKind} (hu : P.underlying s = some (.slice e)) (hi : (P.info? e).map (·.size) = some sz) (hx : ρ x = .slice (some ⟨b, off, none⟩) n c) (hy : ρ y = .int k (l : Int)) (h1 : l ≤ n) (h2 : l < c) :
    (execOp ρ ⟨d, .slice s x (some y) none none, t, p, af, g⟩).run P W = .ok (.value (.slice (some ⟨b, off + l * sz, none⟩) (n - l) (c - l))) W := by
  have hb : (Instr.sliceBound (.int k (l : Int)) n .sliceB).run P W = .ok l W := by rw [bound_ok (by omega) (by omega)]; simp
  have hne : c ≠ l := by omega
  simp [execOp, Instr.sliceAt, Instr.slice, Instr.sliceBounds, run_underlying hu, hx, hy, hb, size_of hi, hne, addr_add]
end
end Go.Proofs.Ytfmhnplkpohogaa

namespace Go.Proofs.Ytfmhnplkpohogaa
open Go.RowKit

variable {S S' : Nat → Prop}

theorem foldl_push (l : List UInt8) : ∀ s : ByteArray, (l.map fun c => (c.toNat : Int)).foldl (fun r n => r.push (UInt8.ofNat n.toNat)) s = ⟨s.data ++ l.toArray⟩ := by
  induction l with
  | nil => intro s; simp
  | cons c l ih =>
    intro s
    simp only [List.map_cons, List.foldl_cons]
    rw [ih]
    simp [ByteArray.push]

/-- The string of some bytes. -/
abbrev strOf (l : List UInt8) : Value := .string ⟨l.toArray⟩

theorem conv_str {P : Program} {w : World} {src dst e : TypeId} {A : Option Addr} {n c : Nat} {l : List UInt8} (h : RBs S w (.slice A n c) l)
    (hs : P.underlying src = some (.slice e)) (he : P.underlying e = some (.int .u8)) (hd : P.underlying dst = some .string) :
    (convert src dst (.slice A n c)).run P w = .ok (strOf l) w := by
  rw [run_convert_bytes_string w src dst e A n c hs he hd]
  obtain ⟨hn, _, h1, h2, h3⟩ := h.vals
  rcases A with _ | ad
  · have h0 : n = 0 := by
      rcases Nat.eq_zero_or_pos n with h | h
      · exact h
      · obtain ⟨b, off, h, _⟩ := h3 h; cases h
    have hl : l = [] := List.eq_nil_of_length_eq_zero (by omega)
    subst hl
    simp [Conv.bytesToString, strOf]
    rfl
  · have hc : (loadCells ad n).run P w = .ok ((l.map fun c => (c.toNat : Int)).map (Value.int .u8)).toArray w := by
      have hbl : (byteVals l).length = n := by rw [h1]; omega
      have := run_loadCells_list (P := P) w ad (byteVals l) (fun j v hv => by
        rcases Nat.eq_zero_or_pos n with h0 | h0
        · rw [List.getElem?_eq_none (by omega)] at hv; cases hv
        · obtain ⟨b, off, ha, _, hx⟩ := h3 h0
          injection ha with ha
          subst ha
          rw [addr_add]
          exact hx j v hv)
      rw [hbl] at this
      rw [this]
      simp [byteVals]
    rw [run_bytesToString w ad n c _ hc, foldl_push]
    simp [strOf]

theorem neq_str (w : World) (a b : List UInt8) : (binOp .neq 9 (strOf a) (strOf b)).run Try.prog w = .ok (.bool (!decide (a = b))) w := by
  have h : (binOp .neq 9 (.string ⟨a.toArray⟩) (.string ⟨b.toArray⟩)).run Try.prog w = .ok (.bool (!(a == b))) w := by simp [go_sem]
  unfold strOf
  rw [h]
  congr 2
  rw [Bool.eq_iff_iff]
  simp
theorem eql_str (w : World) (a b : List UInt8) : (binOp .eql 9 (strOf a) (strOf b)).run Try.prog w = .ok (.bool (decide (a = b))) w := by
  have h : (binOp .eql 9 (.string ⟨a.toArray⟩) (.string ⟨b.toArray⟩)).run Try.prog w = .ok (.bool (a == b)) w := by simp [go_sem]
  unfold strOf
  rw [h]
  congr 2
  rw [Bool.eq_iff_iff]
  simp

/-- A footprint, of the blocks that are there. -/
def Clip (S : Nat → Prop) (w : World) (b : Nat) : Prop := S b ∧ b < w.heap.size
theorem RBs.clip {w : World} {v : Value} {l : List UInt8} (h : RBs S w v l) : RBs (Clip S w) w v l := h.subB fun _ hb hs => ⟨hs, hb⟩
theorem RBs.all {w : World} {v : Value} {l : List UInt8} (h : RBs S w v l) : RBs (fun _ => True) w v l := h.sub fun _ _ => trivial

section
variable {ρ : Operand → Value} {W : World} {d : Option Tmp} {t : TypeId} {p : String} {af : Array Edge} {g : Option (Nat × Bool)}
theorem rn_str {P : Program} {x : Operand} {s u e : TypeId} {A : Option Addr} {n c : Nat} {l : List UInt8} (hx : ρ x = .slice A n c) (h : RBs S W (.slice A n c) l) (hs : P.underlying s = some (.slice e)) (he : P.underlying e = some (.int .u8)) (hu : P.underlying u = some .string) :
    (execOp ρ ⟨d, .convert s u x, t, p, af, g⟩).run P W = .ok (.value (strOf l)) W := by
  simp [execOp, hx, conv_str h hs he hu]
theorem rn_eqs {x y : Operand} {xt yt : TypeId} {l m : List UInt8} (hx : ρ x = strOf l) (hy : ρ y = strOf m) (hu : xt = 9) : (execOp ρ ⟨d, .binOp .eql xt x y yt, t, p, af, g⟩).run Try.prog W = .ok (.value (.bool (decide (l = m)))) W := by
  subst hu; exact rn_bin hx hy guard_str (eql_str W l m)
theorem rn_nes {x y : Operand} {xt yt : TypeId} {l m : List UInt8} (hx : ρ x = strOf l) (hy : ρ y = strOf m) (hu : xt = 9) : (execOp ρ ⟨d, .binOp .neq xt x y yt, t, p, af, g⟩).run Try.prog W = .ok (.value (.bool (!decide (l = m)))) W := by
  subst hu; exact rn_bin hx hy guard_str (neq_str W l m)
end
end Go.Proofs.Ytfmhnplkpohogaa

namespace Go.Proofs.Ytfmhnplkpohogaa
open Go.RowKit

variable {S S' : Nat → Prop}

section
variable {P : Program} {W : World} {ρ : Operand → Value} {d : Option Nat} {t : TypeId} {p : String} {af : Array Edge} {g : Option (Nat × Bool)}
theorem rn_conv {src dst : TypeId} {x : Operand} {k k2 : IntKind} {n : Int} {td : TypeDesc} (hs : P.underlying src = some td) (hu : P.underlying dst = some (.int k2)) (hx : ρ x = .int k n) (hw : k2.wrap n = n) :
    (execOp ρ ⟨d, .convert src dst x, t, p, af, g⟩).run P W = .ok (.value (.int k2 n)) W := by
  simp [execOp, hx, convert, run_underlying hs, run_underlying hu, Conv.intToInt, hw]
theorem rn_rem {x y : Operand} {xt yt : TypeId} {k : IntKind} {n1 n2 : Int} (hx : ρ x = .int k n1) (hy : ρ y = .int k n2) (h1 : 0 ≤ n1) (h2 : 0 < n2) : (execOp ρ ⟨d, .binOp .rem xt x y yt, t, p, af, g⟩).run P W = .ok (.value (.int k (n1 % n2))) W :=
  rn_bin hx hy guard_int (by simp only [binOp, Op.intDiv, if_neg (by omega : ¬ n2 = 0), Int.tmod_eq_emod_of_nonneg h1, ne_eq, not_true_eq_false, if_false, Sem.run_pure])
theorem rn_indexArr {s e : TypeId} {x y : Operand} {b off L : Nat} {kd : IntKind} {n : Int} (hu : P.underlying s = some (.array L e)) (hi : (P.info? e).map (·.size) = some 1) (hx : ρ x = .pointer (some ⟨b, off, none⟩)) (hy : ρ y = .int kd n) (h0 : 0 ≤ n) (h1 : n < L) :
    (execOp ρ ⟨d, .indexAddr s x y, t, p, af, g⟩).run P W = .ok (.value (.pointer (some ⟨b, off + n.toNat, none⟩))) W := by
  cases hq : P.info? e with
  | none => simp [hq] at hi
  | some i =>
    have hs : i.size = 1 := by simpa [hq] using hi
    simp [execOp, Instr.indexAt, Instr.sureAddr, hx, hy, asIntOf, run_underlying hu, sizeOf, typeInfo, hq, hs, h0, h1, addr_add]
end
theorem byteVals_len {la : List UInt8} {n : Nat} (h : la.length = n) : (byteVals la).length = n := by simp [byteVals, h]
theorem byteVals_set {la : List UInt8} {j i : Nat} {x : UInt8} (hj : j = i) : (byteVals la).set j (.int .u8 (x.toNat : Nat)) = byteVals (la.set i x) := by
  subst hj; simp [byteVals, List.map_set]
theorem i64_nat (n : Nat) (h : n < 9223372036854775808) : IntKind.i64.wrap (n : Int) = n := IntWalk.i64_in _ ⟨by omega, by omega⟩

end Go.Proofs.Ytfmhnplkpohogaa

namespace Go.Proofs.Ytfmhnplkpohogaa
open Go.RowKit

theorem ofInt32 (a : UInt32) : BitVec.ofInt IntKind.u32.bits ((a.toNat : Nat) : Int) = a.toBitVec := by
  show BitVec.ofInt 32 ((a.toNat : Nat) : Int) = a.toBitVec
  rw [BitVec.ofInt_natCast]
  exact (BitVec.ofNat_toNat 32 a.toBitVec).trans (by simp)
theorem wrap32 (n : Nat) (h : n < 4294967296) : IntKind.u32.wrap (n : Int) = n := by
  show (let m := (n : Int) % (2 ^ 32 : Int); if false && m ≥ (2 ^ 31 : Int) then m - (2 ^ 32 : Int) else m) = n
  simp
  omega
theorem wrap32m (n : Int) : IntKind.u32.wrap n = n % 4294967296 := by
  show (let m := (n : Int) % (2 ^ 32 : Int); if false && m ≥ (2 ^ 31 : Int) then m - (2 ^ 32 : Int) else m) = _
  simp

section
variable {P : Program} {W : World} {t : TypeId}
theorem b_xor32 (a b : UInt32) : (binOp .xor t (.int .u32 (a.toNat : Nat)) (.int .u32 (b.toNat : Nat))).run P W = .ok (.int .u32 ((a ^^^ b).toNat : Nat)) W := by
  simp only [binOp, Op.intBits, ne_eq, not_true_eq_false, if_false, Sem.run_pure, ofInt32]
  congr 2
  exact wrap32 _ (a ^^^ b).toNat_lt
theorem b_and32 (a b : UInt32) : (binOp .and t (.int .u32 (a.toNat : Nat)) (.int .u32 (b.toNat : Nat))).run P W = .ok (.int .u32 ((a &&& b).toNat : Nat)) W := by
  simp only [binOp, Op.intBits, ne_eq, not_true_eq_false, if_false, Sem.run_pure, ofInt32]
  congr 2
  exact wrap32 _ (a &&& b).toNat_lt
theorem b_not32 (a : UInt32) : (Op.unary .xor (.int .u32 (a.toNat : Nat))).run P W = .ok (.int .u32 ((~~~ a).toNat : Nat)) W := by
  have h : BitVec.ofInt IntKind.u32.bits (if IntKind.u32.signed = true then (-1 : Int) else IntKind.u32.max) = (0xffffffff : UInt32).toBitVec := rfl
  show Sem.run P (pure (Value.int .u32 (IntKind.u32.wrap ((BitVec.ofInt IntKind.u32.bits (if IntKind.u32.signed = true then (-1 : Int) else IntKind.u32.max) ^^^ BitVec.ofInt IntKind.u32.bits ((a.toNat : Nat) : Int)).toNat : Nat)))) W = _
  rw [h, ofInt32, Sem.run_pure]
  congr 2
  rw [show (~~~ a) = (0xffffffff : UInt32) ^^^ a from UInt32.toBitVec_inj.1 (BitVec.allOnes_xor (x := a.toBitVec)).symm]
  exact wrap32 _ ((0xffffffff : UInt32) ^^^ a).toNat_lt
theorem b_shr32 (a : UInt32) (k : IntKind) (n : Nat) (h : n < 32) : (binOp .shr t (.int .u32 (a.toNat : Nat)) (.int k (n : Nat))).run P W = .ok (.int .u32 ((a >>> UInt32.ofNat n).toNat : Nat)) W := by
  have hn : min n IntKind.u32.bits = n := Nat.min_eq_left (by show n ≤ 32; omega)
  have h0 : ¬ ((n : Int) < 0) := by omega
  show Sem.run P (Op.shift .shr .u32 ((a.toNat : Nat) : Int) k (n : Nat)) W = _
  unfold Op.shift
  rw [if_neg h0]
  show Sem.run P (pure (Value.int .u32 (Int.fdiv ((a.toNat : Nat) : Int) (2 ^ (min ((n : Int)).toNat IntKind.u32.bits))))) W = _
  rw [Int.toNat_natCast, hn, Sem.run_pure]
  congr 2
  rw [UInt32.toNat_shiftRight, UInt32.toNat_ofNat_of_lt' (by show n < 4294967296; omega), Nat.mod_eq_of_lt h, Nat.shiftRight_eq_div_pow, Int.fdiv_eq_ediv_of_nonneg _ (by exact Int.pow_nonneg (by omega))]
  rw [Int.natCast_ediv, Int.natCast_pow]
  rfl
end

section
variable {P : Program} {ρ : Operand → Value} {W : World} {d : Option Tmp} {t xt yt : TypeId} {p : String} {af : Array Edge} {g : Option (Nat × Bool)} {x y : Operand}
theorem rn_xor32 {a b : UInt32} (hx : ρ x = .int .u32 (a.toNat : Nat)) (hy : ρ y = .int .u32 (b.toNat : Nat)) : (execOp ρ ⟨d, .binOp .xor xt x y yt, t, p, af, g⟩).run P W = .ok (.value (.int .u32 ((a ^^^ b).toNat : Nat))) W := rn_bin hx hy guard_int (b_xor32 a b)
theorem rn_and32 {a b : UInt32} (hx : ρ x = .int .u32 (a.toNat : Nat)) (hy : ρ y = .int .u32 (b.toNat : Nat)) : (execOp ρ ⟨d, .binOp .and xt x y yt, t, p, af, g⟩).run P W = .ok (.value (.int .u32 ((a &&& b).toNat : Nat))) W := rn_bin hx hy guard_int (b_and32 a b)
theorem rn_shr32 {a : UInt32} {k : IntKind} {n : Nat} (hx : ρ x = .int .u32 (a.toNat : Nat)) (hy : ρ y = .int k (n : Nat)) (h : n < 32) : (execOp ρ ⟨d, .binOp .shr xt x y yt, t, p, af, g⟩).run P W = .ok (.value (.int .u32 ((a >>> UInt32.ofNat n).toNat : Nat))) W := rn_bin hx hy guard_int (b_shr32 a k n h)
theorem rn_not32 {a : UInt32} (hx : ρ x = .int .u32 (a.toNat : Nat)) : (execOp ρ ⟨d, .unOp .xor xt x, t, p, af, g⟩).run P W = .ok (.value (.int .u32 ((~~~ a).toNat : Nat))) W := by
  simp [execOp, hx, b_not32 a]
end

end Go.Proofs.Ytfmhnplkpohogaa

namespace Go.Proofs.Ytfmhnplkpohogaa
open Go.RowKit

variable {S S' : Nat → Prop}

theorem wrap64 (n : Nat) (h : n < 18446744073709551616) : IntKind.u64.wrap (n : Int) = n := by
  show (let m := (n : Int) % (2 ^ 64 : Int); if false && m ≥ (2 ^ 63 : Int) then m - (2 ^ 64 : Int) else m) = n
  simp
  omega
theorem wrap8m (n : Int) : IntKind.u8.wrap n = n % 256 := by
  show (let m := (n : Int) % (2 ^ 8 : Int); if false && m ≥ (2 ^ 7 : Int) then m - (2 ^ 8 : Int) else m) = _
  simp
section
variable {P : Program} {W : World} {t : TypeId}
end

section
variable {P : Program} {ρ : Operand → Value} {W : World} {d : Option Tmp} {t xt yt : TypeId} {p : String} {af : Array Edge} {g : Option (Nat × Bool)} {x y : Operand}
theorem rn_quo {n1 n2 : Int} (hx : ρ x = .int .i64 n1) (hy : ρ y = .int .i64 n2) (h1 : 0 ≤ n1) (h2 : 0 < n2) (h3 : n1 ≤ 9223372036854775807) : (execOp ρ ⟨d, .binOp .quo xt x y yt, t, p, af, g⟩).run P W = .ok (.value (.int .i64 (n1 / n2))) W :=
  rn_bin hx hy guard_int (by
    have ha : 0 ≤ n1 / n2 := Int.ediv_nonneg h1 (by omega)
    have hb : n1 / n2 ≤ n1 := Int.ediv_le_self _ h1
    simp only [binOp, Op.intDiv, if_neg (by omega : ¬ n2 = 0), Int.tdiv_eq_ediv_of_nonneg h1, ne_eq, not_true_eq_false, if_false, Sem.run_pure, IntWalk.i64_in _ (⟨by omega, by omega⟩ : -9223372036854775808 ≤ n1 / n2 ∧ n1 / n2 ≤ 9223372036854775807)])
theorem rn_convW {src dst : TypeId} {k k2 : IntKind} {n m : Int} {td : TypeDesc} (hs : P.underlying src = some td) (hu : P.underlying dst = some (.int k2)) (hx : ρ x = .int k n) (hw : k2.wrap n = m) :
    (execOp ρ ⟨d, .convert src dst x, t, p, af, g⟩).run P W = .ok (.value (.int k2 m)) W := by
  simp [execOp, hx, convert, run_underlying hs, run_underlying hu, Conv.intToInt, hw]
theorem rn_callv {f : FuncId} {xs : Array Operand} {ts : Array TypeId} {first vs : Array Value} (hf : ρ x = .func (.func f) first #[]) (ha : first ++ xs.map ρ = vs) (hc : (callFunc f vs).run P W = .ok (.enter f vs) W) :
    (execOp ρ ⟨d, .call { callee := .value x, args := xs, argTypes := ts }, t, p, af, g⟩).run P W = .ok (.enter f vs) W := by
  simp [execOp, resolve, hf, ha, Deferred.ofValue, invoke, hc]
theorem rn_makeFunc {fn : Fn} {xs ys : Array Operand} {vs us : Array Value} (hx : xs.map ρ = vs) (hy : ys.map ρ = us) : (execOp ρ ⟨d, .makeFunc fn xs ys, t, p, af, g⟩).run P W = .ok (.value (.func fn vs us)) W := by
  simp [execOp, Instr.makeFunc, hx, hy]
end
theorem cv8_32 (c : UInt8) : IntKind.u32.wrap ((c.toNat : Nat) : Int) = ((c.toUInt32.toNat : Nat) : Int) := by
  rw [wrap32m, UInt8.toNat_toUInt32]; have := c.toNat_lt; omega
theorem ret0 {N : Nat} {m : List (Nat × Value)} {a : Act} {P : Program} {fn : Func} {R : Ending → World → Prop} {w : World} (hF : Sl N m a) (hr : fn.results = #[]) (h : R (.returned (.tuple #[])) w) : bodyPost P fn R .normal a w :=
  ⟨hF.2.1, .tuple #[], by simp [results, hr], h⟩

end Go.Proofs.Ytfmhnplkpohogaa

namespace Go.Proofs.Ytfmhnplkpohogaa
open Go.RowKit

section
variable {P : Program} {ρ : Operand → Value} {W : World} {d : Option Tmp} {t : TypeId} {p : String} {af : Array Edge} {g : Option (Nat × Bool)} {x y : Operand}
/-- a[:hi] of an array of L cells -/
theorem rn_arrHi {s e : TypeId} {b off L : Nat} {k : IntKind} {h : Int} (hu : P.underlying s = some (.array L e)) (hi : (P.info? e).map (·.size) = some 1) (hx : ρ x = .pointer (some ⟨b, off, none⟩)) (hy : ρ y = .int k h) (h0 : 0 ≤ h) (h1 : h ≤ L) :
    (execOp ρ ⟨d, .slice s x none (some y) none, t, p, af, g⟩).run P W = .ok (.value (.slice (some ⟨b, off, none⟩) h.toNat L)) W := by
  have hz := add_zero_addr (some ⟨b, off, none⟩ : Option Addr)
  simp [execOp, Instr.sliceAt, Instr.sureAddr, Instr.sliceBounds, run_underlying hu, hx, hy, bound_ok h0 h1, size_of hi, addr_add]
/-- a[:] of an array of L cells -/
theorem rn_arrAll {s e : TypeId} {b off L : Nat} (hu : P.underlying s = some (.array L e)) (hi : (P.info? e).map (·.size) = some 1) (hx : ρ x = .pointer (some ⟨b, off, none⟩)) :
    (execOp ρ ⟨d, .slice s x none none none, t, p, af, g⟩).run P W = .ok (.value (.slice (some ⟨b, off, none⟩) L L)) W := by
  simp [execOp, Instr.sliceAt, Instr.sureAddr, Instr.sliceBounds, run_underlying hu, hx, size_of hi, addr_add]
/-- a[lo:] of an array of L cells -/
theorem rn_arrLo {s e : TypeId} {b off L l : Nat} {k : IntKind} (hu : P.underlying s = some (.array L e)) (hi : (P.info? e).map (·.size) = some 1) (hx : ρ x = .pointer (some ⟨b, off, none⟩)) (hy : ρ y = .int k (l : Int)) (h1 : l < L) :
    (execOp ρ ⟨d, .slice s x (some y) none none, t, p, af, g⟩).run P W = .ok (.value (.slice (some ⟨b, off + l, none⟩) (L - l) (L - l))) W := by
  have hb : (Instr.sliceBound (.int k (l : Int)) L .sliceB).run P W = .ok l W := by rw [bound_ok (by omega) (by omega)]; simp
  have hne : ¬ L = l := by omega
  simp [execOp, Instr.sliceAt, Instr.sureAddr, Instr.sliceBounds, run_underlying hu, hx, hy, hb, size_of hi, hne, addr_add]
end

section
variable {ρ : Operand → Value} {x0 x1 x2 x3 x4 x5 : Operand} {u0 v0 v1 v2 v3 v4 v5 : Value}
end

section
variable {N : Nat} {m : List (Nat × Value)} {a : Act} {P : Program} {ops : Array Oper} {Q : Exit → Act → World → Prop} {i : Nat} {w : World} {o : Oper} {K : Act → World → Prop} {d : Nat}
/-- copy into a block that is known whole -/
theorem o_copy {t e : TypeId} {z : Value} {bytes : Nat} (E : El P t e z 1 bytes) (hF : Sl N m a) (ho : ops[i]? = some o) (hw : Region.wanted o (yielded ops a.tmps) = true) (hd : o.dst = some d) (hN : Nat.blt d N = true) {x y : Operand}
    (hop : o.op = .call { callee := .builtin .copy, args := #[x, y], argTypes := #[t, t] }) {g off dl dc : Nat} (hx : a.eval x = .slice (some ⟨g, off, none⟩) dl dc) {A : Option Addr} {sl sc : Nat} (hy : a.eval y = .slice A sl sc)
    {cur : List Value} {T : TypeId} (hg : Blk w g T cur) {ys : List Value} (hr : Cel w 1 A sl ys) (hfit : off + min sl dl ≤ cur.length) {new : List Value} (hnew : splice cur off (ys.take (min sl dl)) = new) {n : Nat} (hn : min sl dl = n)
    (h : ∀ w' a', Sl N ((d, .int .i64 (n : Int)) :: m) a' → Blk w' g T new → w.grownBy w' (some g) → K a' w') : wpOp P ops Q i K a w := by
  subst hnew
  subst hn
  obtain ⟨i, hi, hz0, hz1, hz2⟩ := info_parts E.hi
  have hsz : (P.info? e).map (·.size) = some 1 := by rw [hi]; simp [hz1]
  obtain ⟨hl, h1, hc⟩ := hr
  have hcl : (ys.take (min sl dl)).length = min sl dl := by rw [List.length_take]; omega
  have key : ∃ w', (Builtin.copy_ #[t, t] o.type #[.slice (some ⟨g, off, none⟩) dl dc, .slice A sl sc]).run P w = .ok (.int .i64 ((min sl dl : Nat) : Int)) w' ∧ Blk w' g T (splice cur off (ys.take (min sl dl))) ∧ w.grownBy w' (some g) := by
    by_cases h0 : min sl dl = 0
    · have hrun := run_copy_none (P := P) w t t o.type e (some ⟨g, off, none⟩) A dl dc sl sc E.ht hsz h0
      refine ⟨w, ?_, ?_, ⟨rfl, rfl, rfl, Nat.le_refl _, fun _ _ _ => rfl⟩⟩
      · rw [hrun, h0]; rfl
      · rw [h0]; simpa [splice] using hg
    · obtain ⟨b, off', rfl, hb, hx⟩ := hc (by omega)
      have hrun := run_copy_row (P := P) w t t o.type e g off dl dc ⟨b, off', none⟩ sl sc cur.toArray T (ys.take (min sl dl)) E.ht hsz hg hcl (fun j v hv => by
        rw [addr_add]
        rw [List.getElem?_take] at hv
        split at hv
        · exact hx j v hv
        · cases hv) (by rw [hcl]; simpa using hfit) (fun u hu => h1 u (List.mem_of_mem_take hu))
      refine ⟨_, hrun.trans ?_, setRow_heap w g cur.toArray _ T _ hg, ⟨rfl, rfl, rfl, by simp, fun k _ hk => setRow_other w g k _ (fun e => hk (by rw [e]))⟩⟩
      rw [hcl]
      simp [splice, goInt, hcl]
  obtain ⟨w', hrun, hB, hG⟩ := key
  refine op_run ho hw (v := .int .i64 ((min sl dl : Nat) : Int)) (w' := w') ?_ (by rw [hd]; exact h w' _ (hF.put hN) hB hG)
  unfold execOp
  simp only [hop, resolve, invoke, builtin, Sem.run_bind, Sem.run_pure, Result.andThen_ok, List.map_toArray, List.map_cons, List.map_nil, hx, hy, hrun]
end

/-! equality of arrays of bytes -/
section
variable {P : Program} {W : World}
variable {ρ : Operand → Value} {d : Option Tmp} {t xt yt : TypeId} {p : String} {af : Array Edge} {g : Option (Nat × Bool)} {x y : Operand}
end

/-! flat slices: v is a slice of n elements of k cells each, whose cells are xs; they lie in a block of S -/
def Fl (S : Nat → Prop) (w : World) (k : Nat) (v : Value) (n : Nat) (xs : List Value) : Prop :=
  ∃ A cap, v = .slice A n cap ∧ (n ≤ cap ∧ cap ≤ 9223372036854775807) ∧ Cel w k A n xs ∧ (0 < n → ∃ b off, A = some ⟨b, off, none⟩ ∧ S b)
variable {S S' : Nat → Prop}
theorem Fl.ext {w w' : World} {k n : Nat} {v : Value} {xs : List Value} (h : Fl S w k v n xs) (he : Ext w w') : Fl S w' k v n xs := by
  obtain ⟨A, cap, hv, hc, hl, hs⟩ := h; exact ⟨A, cap, hv, hc, hl.ext he, hs⟩
theorem Fl.pres {w w' : World} {k n : Nat} {v : Value} {xs : List Value} (h : Fl S w k v n xs) (hp : Pres S w w') : Fl S w' k v n xs := by
  obtain ⟨A, cap, hv, hc, ⟨h1, h2, h3⟩, hs⟩ := h
  refine ⟨A, cap, hv, hc, ⟨h1, h2, fun h0 => ?_⟩, hs⟩
  obtain ⟨b, off, ha, hb, hx⟩ := h3 h0
  obtain ⟨b', off', ha', hS⟩ := hs h0
  rw [ha] at ha'
  cases ha'
  exact ⟨b, off, ha, Nat.lt_of_lt_of_le hb hp.1, fun j u hu => by rw [World.cell?_of_block (w := w) (a := ⟨b, off + j, none⟩) (hp.2 b hS hb)]; exact hx j u hu⟩
theorem Fl.subB {w : World} {k n : Nat} {v : Value} {xs : List Value} (h : Fl S w k v n xs) (hs : ∀ b, b < w.heap.size → S b → S' b) : Fl S' w k v n xs := by
  obtain ⟨A, cap, hv, hc, hl, h4⟩ := h
  refine ⟨A, cap, hv, hc, hl, fun h0 => ?_⟩
  obtain ⟨b, off, ha, hS⟩ := h4 h0
  obtain ⟨b', off', ha', hb', _⟩ := hl.2.2 h0
  rw [ha] at ha'
  cases ha'
  exact ⟨b, off, ha, hs b hb' hS⟩
theorem Fl.sub {w : World} {k n : Nat} {v : Value} {xs : List Value} (h : Fl S w k v n xs) (hs : ∀ b, S b → S' b) : Fl S' w k v n xs := h.subB fun b _ => hs b
theorem Fl.clip {w : World} {k n : Nat} {v : Value} {xs : List Value} (h : Fl S w k v n xs) : Fl (fun b => S b ∧ b < w.heap.size) w k v n xs := h.subB fun _ h1 h2 => ⟨h2, h1⟩
theorem Fl.form {w : World} {k n : Nat} {v : Value} {xs : List Value} (h : Fl S w k v n xs) : ∃ A cap, v = .slice A n cap ∧ n ≤ cap ∧ cap ≤ 9223372036854775807 := by
  obtain ⟨A, cap, hv, hc, _⟩ := h; exact ⟨A, cap, hv, hc⟩
theorem Fl.cel {w : World} {k n m c : Nat} {A : Option Addr} {xs : List Value} (h : Fl S w k (.slice A m c) n xs) : m = n ∧ (n ≤ c ∧ c ≤ 9223372036854775807) ∧ Cel w k A n xs := by
  obtain ⟨A', cap, hv, hc, hl, _⟩ := h
  cases hv
  exact ⟨rfl, hc, hl⟩
theorem Fl.len {w : World} {k n : Nat} {v : Value} {xs : List Value} (h : Fl S w k v n xs) : xs.length = n * k := by
  obtain ⟨A, cap, hv, hc, hl, _⟩ := h; exact hl.1
theorem Fl.nil {k : Nat} (w : World) : Fl S w k (.slice none 0 0) 0 [] := ⟨none, 0, rfl, ⟨Nat.le_refl _, by omega⟩, Cel.none _ _ _, fun h => absurd h (by omega)⟩
/-- where its elements lie -/
theorem Fl.at {w : World} {k n m c : Nat} {A : Option Addr} {xs : List Value} (h : Fl S w k (.slice A m c) n xs) (h0 : 0 < n) : ∃ b off, A = some ⟨b, off, none⟩ ∧ b < w.heap.size ∧ S b ∧ ∀ j u, xs[j]? = some u → w.cell? ⟨b, off + j, none⟩ = some u := by
  obtain ⟨A', cap, hv, hc, hl, hs⟩ := h
  cases hv
  obtain ⟨b, off, ha, hb, hx⟩ := hl.2.2 h0
  obtain ⟨b', off', ha', hS⟩ := hs h0
  rw [ha] at ha'
  cases ha'
  exact ⟨b, off, ha, hb, hS, hx⟩
theorem Fl.own {k : Nat} {w : World} {base : Nat} {e : TypeId} {v : Value} {n : Nat} {xs : List Value} (h : w.ownsRow base e k v n xs) (hS : ∀ b, base ≤ b → S b) (h1 : ∀ u ∈ xs, u.oneCell' = true) : Fl S w k v n xs := by
  obtain ⟨A, cap, rfl, h2, h3⟩ := own_any h
  obtain ⟨_, _, hc⟩ := own_cel h h1
  refine ⟨A, cap, rfl, ⟨h2, h3⟩, hc, fun h0 => ?_⟩
  obtain ⟨g, cap', hv, hb, _⟩ := own_form h h0
  cases hv
  exact ⟨g, 0, rfl, hS g hb⟩
theorem Fl.blk {w : World} {g : Nat} {t : TypeId} {cs : List Value} {k n c : Nat} (h : Blk w g t cs) (hl : cs.length = n * k) (h1 : ∀ u ∈ cs, u.oneCell' = true) (hc : n ≤ c ∧ c ≤ 9223372036854775807) (hS : S g) : Fl S w k (.slice (some ⟨g, 0, none⟩) n c) n cs :=
  ⟨_, c, rfl, hc, h.cel hl h1, fun _ => ⟨g, 0, rfl, hS⟩⟩
/-- the first ones -/
theorem Fl.take {w : World} {k n m c : Nat} {A : Option Addr} {xs : List Value} (h : Fl S w k (.slice A m c) n xs) {j : Nat} (hj : j ≤ n) : Fl S w k (.slice A j c) j (xs.take (j * k)) := by
  obtain ⟨A', cap, hv, hc, ⟨h1, h2, h3⟩, hs⟩ := h
  cases hv
  have : j * k ≤ n * k := Nat.mul_le_mul_right _ hj
  refine ⟨A, c, rfl, ⟨by omega, hc.2⟩, ⟨by rw [List.length_take]; omega, fun u hu => h2 u (List.mem_of_mem_take hu), fun h0 => ?_⟩, fun h0 => hs (by omega)⟩
  obtain ⟨b, off, ha, hb, hx⟩ := h3 (by omega)
  refine ⟨b, off, ha, hb, fun i u hu => hx i u ?_⟩
  rw [List.getElem?_take] at hu
  split at hu
  · exact hu
  · cases hu
/-- the last ones -/
theorem Fl.drop {w : World} {k n m c b off : Nat} {xs : List Value} (h : Fl S w k (.slice (some ⟨b, off, none⟩) m c) n xs) {j : Nat} (hj : j ≤ n) : Fl S w k (.slice (some ⟨b, off + j * k, none⟩) (n - j) (c - j)) (n - j) (xs.drop (j * k)) := by
  obtain ⟨A', cap, hv, hc, ⟨h1, h2, h3⟩, hs⟩ := h
  cases hv
  refine ⟨_, _, rfl, ⟨by omega, by omega⟩, ⟨by rw [List.length_drop, h1, Nat.sub_mul], fun u hu => h2 u (List.mem_of_mem_drop hu), fun h0 => ?_⟩, fun h0 => ?_⟩
  · obtain ⟨b', off', ha, hb, hx⟩ := h3 (by omega)
    cases ha
    refine ⟨b, off + j * k, rfl, hb, fun i u hu => ?_⟩
    rw [List.getElem?_drop] at hu
    rw [Nat.add_assoc]
    exact hx _ u hu
  · obtain ⟨b', off', ha, hS⟩ := hs (by omega)
    cases ha
    exact ⟨b, off + j * k, rfl, hS⟩

theorem RBs.fl {w : World} {v : Value} {l : List UInt8} (h : RBs S w v l) : Fl S w 1 v l.length (byteVals l) := by
  obtain ⟨A, cap, xs, hv, hc, hl, hr, hs⟩ := h
  refine ⟨A, cap, hv, hc, ?_, hs⟩
  have : xs = byteVals l := by
    apply List.ext_getElem
    · rw [hl.1]; simp [byteVals]
    · intro i h1 h2
      have hi : i < l.length := by have := hl.1; omega
      have h := hr i hi
      rw [chunk_one h1] at h
      simp only [RByte, List.cons.injEq, and_true] at h
      rw [h]
      simp [byteVals]
  rw [← this]
  exact hl
theorem Fl.rbs {w : World} {v : Value} {l : List UInt8} {n : Nat} (h : Fl S w 1 v n (byteVals l)) : RBs S w v l := by
  obtain ⟨A, cap, hv, hc, hl, hs⟩ := h
  have hn : n = l.length := by have := hl.1; simp [byteVals] at this; omega
  subst hn
  refine ⟨A, cap, byteVals l, hv, hc, hl, fun i hi => ?_, hs⟩
  rw [chunk_one (by simpa [byteVals] using hi)]
  simp [RByte, byteVals]

/-! numbers that are natural -/
section
variable {P : Program} {ρ : Operand → Value} {W : World} {d : Option Tmp} {t xt yt : TypeId} {p : String} {af : Array Edge} {g : Option (Nat × Bool)} {x y : Operand} {a b : Nat}
theorem rn_quoN (hx : ρ x = .int .i64 (a : Nat)) (hy : ρ y = .int .i64 (b : Nat)) (h : 0 < b) (hm : a ≤ 9223372036854775807) : (execOp ρ ⟨d, .binOp .quo xt x y yt, t, p, af, g⟩).run P W = .ok (.value (.int .i64 ((a / b : Nat) : Int))) W := by
  rw [rn_quo hx hy (by omega) (by omega) (by omega), Int.natCast_ediv]
theorem rn_addN (hx : ρ x = .int .i64 (a : Nat)) (hy : ρ y = .int .i64 (b : Nat)) (h : a + b ≤ 9223372036854775807) : (execOp ρ ⟨d, .binOp .add xt x y yt, t, p, af, g⟩).run P W = .ok (.value (.int .i64 ((a + b : Nat) : Int))) W :=
  rn_add hx hy (by omega) (by omega)
theorem rn_mulN (hx : ρ x = .int .i64 (a : Nat)) (hy : ρ y = .int .i64 (b : Nat)) (h : a * b ≤ 9223372036854775807) : (execOp ρ ⟨d, .binOp .mul xt x y yt, t, p, af, g⟩).run P W = .ok (.value (.int .i64 ((a * b : Nat) : Int))) W :=
  rn_mul hx hy (by rw [← Int.natCast_mul]; omega) (by rw [Int.natCast_mul])
end
theorem Fl.cellAt {w : World} {k n m c b off : Nat} {A : Option Addr} {xs : List Value} (h : Fl S w k (.slice A m c) n xs) (hA : A = some ⟨b, off, none⟩) {j : Nat} {u : Value} (hu : xs[j]? = some u) : w.cell? ⟨b, off + j, none⟩ = some u := by
  have h0 : 0 < n := by
    rcases Nat.eq_zero_or_pos n with h0 | h0
    · have := h.len
      have := (List.getElem?_eq_some_iff.1 hu).1
      subst h0
      omega
    · exact h0
  obtain ⟨b', off', hA', _, _, hx⟩ := h.at h0
  rw [hA] at hA'
  cases hA'
  exact hx j u hu
theorem byteVals_at {l : List UInt8} {i : Nat} (h : i < l.length) : (byteVals l)[i]? = some (.int .u8 ((l.getD i 0).toNat : Nat)) := by
  simp [byteVals, List.getD_eq_getElem?_getD, List.getElem?_eq_getElem h]
end Go.Proofs.Ytfmhnplkpohogaa

namespace Go.Proofs.Ytfmhnplkpohogaa
open Go.RowKit

variable {S S' : Nat → Prop}

/-! parts of flat slices, by their lists -/
theorem byteVals_app (a b : List UInt8) : byteVals a ++ byteVals b = byteVals (a ++ b) := by simp [byteVals]
theorem byteVals_take (a : List UInt8) (n : Nat) : (byteVals a).take n = byteVals (a.take n) := by simp [byteVals, List.map_take]
theorem byteVals_drop (a : List UInt8) (n : Nat) : (byteVals a).drop n = byteVals (a.drop n) := by simp [byteVals, List.map_drop]
theorem Fl.any {w : World} {k n : Nat} {v : Value} {xs : List Value} (h : Fl S w k v n xs) : Fl (fun _ => True) w k v n xs := h.sub fun _ _ => trivial
theorem Fl.take_eq {w : World} {k n m c : Nat} {A : Option Addr} {xs ys : List Value} (h : Fl S w k (.slice A m c) n xs) {j : Nat} (hj : j ≤ n) (e : xs.take (j * k) = ys) : Fl S w k (.slice A j c) j ys := e ▸ h.take hj
theorem Fl.drop_eq {w : World} {k n m c b off : Nat} {A : Option Addr} {xs ys : List Value} (h : Fl S w k (.slice A m c) n xs) (hA : A = some ⟨b, off, none⟩) {j : Nat} (hj : j ≤ n) (e : xs.drop (j * k) = ys) : Fl S w k (.slice (some ⟨b, off + j * k, none⟩) (n - j) (c - j)) (n - j) ys := by
  subst hA
  exact e ▸ h.drop hj

/-! slices of slices of bytes -/
theorem RBss.of_blk {w : World} {g : Nat} {t : TypeId} {vs : List Value} {l : List (List UInt8)} {n : Nat} (h : Blk w g t vs) (hn : l.length = n) (hv : vs.length = n) (hn2 : n ≤ 9223372036854775807) (h1 : ∀ u ∈ vs, u.oneCell' = true) (hS : S g) (hr : ∀ i (hi : i < l.length) (hj : i < vs.length), RBs S w vs[i] l[i]) : RBss S w (.slice (some ⟨g, 0, none⟩) n n) l := by
  subst hn
  refine ⟨_, _, vs, rfl, ⟨Nat.le_refl _, hn2⟩, h.cel (by omega) h1, fun i hi => ?_, fun _ => ⟨g, 0, rfl, hS⟩⟩
  rw [chunk_one (by omega)]
  exact ⟨_, rfl, hr i hi (by omega)⟩
theorem RBs.one {w : World} {v : Value} {l : List UInt8} (h : RBs S w v l) : v.oneCell' = true := by obtain ⟨A, c, rfl, _⟩ := RSl.form h; rfl
theorem RBss.two {w : World} {g : Nat} {t : TypeId} {v1 v2 : Value} {l1 l2 : List UInt8} {n1 n2 : Nat} {S1 S2 : Nat → Prop} (h : Blk w g t [v1, v2]) (h1 : Fl S1 w 1 v1 n1 (byteVals l1)) (h2 : Fl S2 w 1 v2 n2 (byteVals l2)) : RBss (fun _ => True) w (.slice (some ⟨g, 0, none⟩) 2 2) [l1, l2] := by
  have r1 := h1.any.rbs
  have r2 := h2.any.rbs
  refine RBss.of_blk h rfl rfl (by omega) (by simp [r1.one, r2.one]) trivial (fun i hi hj => ?_)
  match i, hi with
  | 0, _ => exact r1
  | 1, _ => exact r2
/-! slice literals whose every element is given -/
section
variable {P : Program} {W : World}
end

/-! the bytes of a string, as_ new memory; zeros appended to nothing; append, with the form of its value -/
section
variable {N : Nat} {m : List (Nat × Value)} {a : Act} {P : Program} {ops : Array Oper} {Q : Exit → Act → World → Prop} {i : Nat} {w : World} {o : Oper} {K : Act → World → Prop} {d : Nat}
end
theorem own_nil (w : World) (base : Nat) (e : TypeId) (k : Nat) : w.ownsRow base e k (.slice none 0 0) 0 [] := ⟨by simp, .inl ⟨rfl, rfl⟩⟩
theorem own_form0 {w : World} {base : Nat} {e : TypeId} {k : Nat} {A : Option Addr} {n m c : Nat} {xs : List Value} (h : w.ownsRow base e k (.slice A m c) n xs) : m = n ∧ n ≤ c ∧ c ≤ 9223372036854775807 := by
  obtain ⟨A', c', h', h1, h2⟩ := own_any h
  cases h'
  exact ⟨rfl, h1, h2⟩
theorem ext_row {a w w' : World} {base : Nat} {e : TypeId} {k n : Nat} {v : Value} {xs : List Value} (h : Ext a w) (hg : w.grownBy w' v.ownBlock) (ho : w.ownsRow base e k v n xs) (hb : a.heap.size ≤ base) : Ext a w' :=
  h.grown hg fun k hk => Nat.le_trans hb (ho.lt k hk).1

/-- each is one of 32 bytes -/
def All32 (l : List (List UInt8)) : Prop := ∀ x ∈ l, x.length = 32
theorem All32.nil : All32 [] := fun _ h => by cases h
theorem All32.app {a b : List (List UInt8)} (h : All32 a) (k : All32 b) : All32 (a ++ b) := fun x hx => by
  rcases List.mem_append.1 hx with hx | hx
  · exact h x hx
  · exact k x hx
theorem All32.cons {x : List UInt8} {l : List (List UInt8)} (h : x.length = 32) (k : All32 l) : All32 (x :: l) := fun y hy => by
  rcases List.mem_cons.1 hy with h1 | h1
  · rw [h1]; exact h
  · exact k y h1
theorem All32.take {l : List (List UInt8)} (h : All32 l) (n : Nat) : All32 (l.take n) := fun x hx => h x (List.mem_of_mem_take hx)
theorem All32.drop {l : List (List UInt8)} (h : All32 l) (n : Nat) : All32 (l.drop n) := fun x hx => h x (List.mem_of_mem_drop hx)
end Go.Proofs.Ytfmhnplkpohogaa
