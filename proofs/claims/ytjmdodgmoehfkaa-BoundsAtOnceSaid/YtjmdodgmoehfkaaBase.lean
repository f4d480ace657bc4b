/- General words for memory and endings: no program in sight. What a slice in memory reads as, and that it still reads so in a later world. -/
import Derived.WalkKit
import Derived.Lib.Hide
namespace Go.Proofs.Ytjmdodgmoehfkaa
open Go.RowKit

theorem ret_bool {a b : Bool} (h : a = b) : Ending.returned (.bool a) = .returned (.bool b) := by rw [h]
theorem ret_int {k : IntKind} {a b : Int} (h : a = b) : Ending.returned (.int k a) = .returned (.int k b) := by rw [h]

/-- w' is w with more memory: nothing that was there has changed. -/
def Ext (w w' : World) : Prop := Below w.heap.size w w'

theorem Ext.refl (w : World) : Ext w w := Below.refl _ _
theorem Ext.size {w w' : World} (h : Ext w w') : w.heap.size ≤ w'.heap.size := Below.size h
theorem Ext.trans {a b c : World} (h : Ext a b) (k : Ext b c) : Ext a c := Below.trans h (Below.mono k h.size)
theorem Ext.below {w w' : World} (h : Ext w w') : Below w.heap.size w w' := h
theorem Ext.drew {a w : World} (h : Ext a w) : Ext a w.drew := Below.drew h
theorem Ext.alloc {a w : World} (h : Ext a w) (o : Obj) : Ext a (w.alloc o) := Below.alloc h h.size o
theorem Ext.setCell {a w : World} (h : Ext a w) {p : Addr} (hp : a.heap.size ≤ p.block) (u : Value) : Ext a (w.setCell p u) := Below.setCell h hp u
theorem Ext.cellA {w w' : World} (h : Ext w w') {p : Addr} (hp : p.block < w.heap.size) : w'.cell? p = w.cell? p := Below.cell h hp
theorem Ext.cell {w w' : World} (h : Ext w w') {b o : Nat} (hp : b < w.heap.size) : w'.cell? ⟨b, o, none⟩ = w.cell? ⟨b, o, none⟩ := Below.cell (p := ⟨b, o, none⟩) h hp
theorem Ext.cells {w w' : World} (h : Ext w w') : ∀ b o, b < w.heap.size → w'.cell? ⟨b, o, none⟩ = w.cell? ⟨b, o, none⟩ := fun _ _ hp => h.cell hp
theorem Ext.frz {w w' : World} (h : Ext w w') : ∀ b o, b < w.heap.size → w'.frozen? ⟨b, o, none⟩ = w.frozen? ⟨b, o, none⟩ := fun b o hp => Below.frozen (p := ⟨b, o, none⟩) h hp
theorem Ext.keep {w w' : World} (h : Ext w w') {p : Addr} {u : Value} (hc : w.cell? p = some u) : w'.cell? p = some u := by
  rw [h.cellA (World.block_lt_of_cell? w p hc)]; exact hc
/-- A block that was there reads as it did: for a variable of the call's own, behind a call. -/
theorem Ext.loc {W w1 : World} (h : Ext W w1) (n : Nat) (hn : n < W.heap.size) :
    (∀ o, w1.cell? ⟨n, o, none⟩ = W.cell? ⟨n, o, none⟩) ∧ (∀ o, w1.frozen? ⟨n, o, none⟩ = W.frozen? ⟨n, o, none⟩) :=
  ⟨fun _ => h.cell hn, fun o => h.frz n o hn⟩
theorem Ext.grown {a w w' : World} {row : Option Nat} (h : Ext a w) (hg : w.grownBy w' row) (hr : ∀ k, row = some k → a.heap.size ≤ k) : Ext a w' := Below.grown h hg h.size hr

/-- A block that is known whole. -/
def Blk (w : World) (n : Nat) (t : TypeId) (cs : List Value) : Prop := w.heap[n]? = some (.cells cs.toArray t (0, 0))
theorem Blk.lt {w : World} {n : Nat} {t : TypeId} {cs : List Value} (h : Blk w n t cs) : n < w.heap.size := (Array.getElem?_eq_some_iff.1 h).1
theorem Blk.rule {w : World} {n : Nat} {t : TypeId} {cs : List Value} (h : Blk w n t cs) : (∀ o, w.cell? ⟨n, o, none⟩ = cs[o]?) ∧ (∀ o, w.frozen? ⟨n, o, none⟩ = false) :=
  ⟨fun o => by rw [cell_of_row w n o _ t (0, 0) h]; simp, fun o => frozen_of_row w n o _ t h⟩
theorem Blk.ext {w w' : World} {n : Nat} {t : TypeId} {cs : List Value} (h : Blk w n t cs) (he : Ext w w') : Blk w' n t cs := (he.below.block n h.lt).trans h
theorem Blk.grown {w w' : World} {n : Nat} {t : TypeId} {cs : List Value} {row : Option Nat} (h : Blk w n t cs) (hg : w.grownBy w' row) (hr : some n ≠ row) : Blk w' n t cs := (hg.block n h.lt hr).trans h
theorem Blk.new (w : World) (n : Nat) (t : TypeId) (cs : List Value) (hn : n = w.heap.size) : Blk (w.alloc (.cells cs.toArray t)) n t cs := by subst hn; exact heap_alloc_new w _
theorem Blk.alloc {w : World} {n : Nat} {t : TypeId} {cs : List Value} (h : Blk w n t cs) (o : Obj) : Blk (w.alloc o) n t cs := (Below.heap_alloc w o n h.lt).trans h
theorem Blk.drew {w : World} {n : Nat} {t : TypeId} {cs : List Value} (h : Blk w n t cs) : Blk w.drew n t cs := h
theorem Blk.set {w : World} {n : Nat} {t : TypeId} {cs : List Value} (h : Blk w n t cs) (i : Nat) (u : Value) : Blk (w.setCell ⟨n, i, none⟩ u) n t (cs.set i u) := by
  have := heap_setCell_same w n i cs.toArray t u h
  unfold Blk
  rw [this]; simp
theorem Blk.far {w : World} {n : Nat} {t : TypeId} {cs : List Value} (h : Blk w n t cs) {p : Addr} (hp : n ≠ p.block) (u : Value) : Blk (w.setCell p u) n t cs := (Below.heap_setCell w p u n hp).trans h
theorem ext_of_grown {w w' : World} {row : Option Nat} {a : World} (h : Ext a w) (hg : w.grownBy w' row) (hr : ∀ k, row = Option.some k → a.heap.size ≤ k) : Ext a w' := h.grown hg hr

/-- The cells of a slice of n elements of k cells each. -/
def Cel (w : World) (k : Nat) (A : Option Addr) (n : Nat) (xs : List Value) : Prop :=
  xs.length = n * k ∧ (∀ u ∈ xs, u.oneCell' = true) ∧ (0 < n → ∃ b off, A = some ⟨b, off, none⟩ ∧ b < w.heap.size ∧ ∀ j u, xs[j]? = some u → w.cell? ⟨b, off + j, none⟩ = some u)

theorem Cel.ext {w w' : World} {k : Nat} {A : Option Addr} {n : Nat} {xs : List Value} (h : Cel w k A n xs) (he : Ext w w') : Cel w' k A n xs := by
  obtain ⟨h1, h2, h3⟩ := h
  refine ⟨h1, h2, fun h0 => ?_⟩
  obtain ⟨b, off, ha, hb, hx⟩ := h3 h0
  exact ⟨b, off, ha, Nat.lt_of_lt_of_le hb he.size, fun j u hu => he.keep (hx j u hu)⟩

theorem Cel.none (w : World) (k : Nat) (A : Option Addr) : Cel w k A 0 [] := ⟨by simp, fun _ h => by simp at h, fun h => absurd h (by simp)⟩

/-- The i-th k of a list. -/
def chunk (k : Nat) (xs : List Value) (i : Nat) : List Value := (xs.drop (i * k)).take k

theorem chunk_length {k n : Nat} {xs : List Value} (h : xs.length = n * k) {i : Nat} (hi : i < n) : (chunk k xs i).length = k := by
  unfold chunk
  rw [List.length_take, List.length_drop, h]
  have : (i + 1) * k ≤ n * k := Nat.mul_le_mul_right _ hi
  rw [Nat.add_mul, Nat.one_mul] at this
  omega

theorem chunk_get {k : Nat} {xs : List Value} {i j : Nat} {u : Value} (h : (chunk k xs i)[j]? = some u) : xs[i * k + j]? = some u := by
  unfold chunk at h
  rw [List.getElem?_take] at h
  split at h
  · rwa [List.getElem?_drop] at h
  · cases h

theorem chunk_append_left {k n : Nat} {xs ys : List Value} (h : xs.length = n * k) {i : Nat} (hi : i < n) : chunk k (xs ++ ys) i = chunk k xs i := by
  unfold chunk
  have : (i + 1) * k ≤ n * k := Nat.mul_le_mul_right _ hi
  rw [Nat.add_mul, Nat.one_mul] at this
  rw [List.drop_append_of_le_length (by omega), List.take_append_of_le_length (by rw [List.length_drop]; omega)]

theorem chunk_append_right {k n : Nat} {xs ys : List Value} (h : xs.length = n * k) {i : Nat} (hi : n ≤ i) : chunk k (xs ++ ys) i = chunk k ys (i - n) := by
  unfold chunk
  have : n * k ≤ i * k := Nat.mul_le_mul_right _ hi
  rw [List.drop_append, List.drop_eq_nil_of_le (by omega), List.nil_append, h, Nat.sub_mul]

theorem chunk_one {xs : List Value} {i : Nat} (hi : i < xs.length) : chunk 1 xs i = [xs[i]] := by
  unfold chunk
  rw [Nat.mul_one, List.drop_eq_getElem_cons hi]; rfl

theorem chunk_self {k : Nat} {xs : List Value} (h : xs.length = k) : chunk k xs 0 = xs := by
  unfold chunk; rw [Nat.zero_mul, List.drop_zero, List.take_of_length_le (by omega)]

/-- The blocks of a footprint, and all that are new since w. -/
def Fr (S : Nat → Prop) (w : World) (k : Nat) : Prop := S k ∨ w.heap.size ≤ k

variable {S S' : Nat → Prop}

/-- A slice's elements of k cells each, read one by one by R; its cells lie in a block of S. -/
def RSl {α : Type} (S : Nat → Prop) (k : Nat) (R : World → List Value → α → Prop) (w : World) (v : Value) (l : List α) : Prop :=
  ∃ A cap xs, v = .slice A l.length cap ∧ (l.length ≤ cap ∧ cap ≤ 9223372036854775807) ∧ Cel w k A l.length xs ∧ (∀ i (h : i < l.length), R w (chunk k xs i) l[i]) ∧ (0 < l.length → ∃ b off, A = some ⟨b, off, none⟩ ∧ S b)

theorem RSl.ext {α : Type} {k : Nat} {R : World → List Value → α → Prop} {w w' : World} {v : Value} {l : List α} (h : RSl S k R w v l) (he : Ext w w')
    (hR : ∀ cs x, R w cs x → R w' cs x) : RSl S k R w' v l := by
  obtain ⟨A, cap, xs, hv, hc, hl, hr, hs⟩ := h
  exact ⟨A, cap, xs, hv, hc, hl.ext he, fun i hi => hR _ _ (hr i hi), hs⟩

/-- It still reads in a world in which the blocks of its footprint are as they were. -/
theorem RSl.keep {α : Type} {k : Nat} {R : World → List Value → α → Prop} {w w' : World} {v : Value} {l : List α} (h : RSl S k R w v l) (hz : w.heap.size ≤ w'.heap.size) (hk : ∀ b, S b → b < w.heap.size → w'.heap[b]? = w.heap[b]?)
    (hR : ∀ cs x, R w cs x → R w' cs x) : RSl S k R w' v l := by
  obtain ⟨A, cap, xs, hv, hc, ⟨h1, h2, h3⟩, hr, hs⟩ := h
  refine ⟨A, cap, xs, hv, hc, ⟨h1, h2, fun h0 => ?_⟩, fun i hi => hR _ _ (hr i hi), hs⟩
  obtain ⟨b, off, ha, hb, hx⟩ := h3 h0
  obtain ⟨b', off', ha', hS⟩ := hs h0
  rw [ha] at ha'
  cases ha'
  exact ⟨b, off, ha, Nat.lt_of_lt_of_le hb hz, fun j u hu => by rw [World.cell?_of_block (w := w) (a := ⟨b, off + j, none⟩) (hk b hS hb)]; exact hx j u hu⟩

theorem RSl.sub {α : Type} {k : Nat} {R R' : World → List Value → α → Prop} {w : World} {v : Value} {l : List α} (h : RSl S k R w v l) (hs : ∀ b, S b → S' b) (hR : ∀ cs x, R w cs x → R' w cs x) : RSl S' k R' w v l := by
  obtain ⟨A, cap, xs, hv, hc, hl, hr, h4⟩ := h
  refine ⟨A, cap, xs, hv, hc, hl, fun i hi => hR _ _ (hr i hi), fun h0 => ?_⟩
  obtain ⟨b, off, ha, hS⟩ := h4 h0
  exact ⟨b, off, ha, hs b hS⟩

theorem RSl.nil {α : Type} {k : Nat} {R : World → List Value → α → Prop} (w : World) : RSl S k R w (.slice none 0 0) ([] : List α) :=
  ⟨none, 0, [], rfl, ⟨Nat.le_refl _, by omega⟩, Cel.none _ _ _, fun i h => absurd h (by simp), fun h => absurd h (by simp)⟩

/-- A row that the call itself made reads. -/
theorem RSl.own {α : Type} {k : Nat} {R : World → List Value → α → Prop} {w : World} {base : Nat} {e : TypeId} {v : Value} {n : Nat} {xs : List Value} {l : List α} (h : w.ownsRow base e k v n xs) (hS : ∀ b, base ≤ b → S b) (hn : n = l.length)
    (h1 : ∀ u ∈ xs, u.oneCell' = true) (hR : ∀ i (h : i < l.length), R w (chunk k xs i) l[i]) : RSl S k R w v l := by
  subst hn
  rcases h.2 with ⟨rfl, h0⟩ | ⟨g, cap, cur, rfl, hb, hg, hnc, hcm, hcs, ht⟩
  · have : l = [] := List.eq_nil_of_length_eq_zero h0
    subst this
    exact RSl.nil w
  · refine ⟨_, cap, xs, rfl, ⟨hnc, by simpa [maxLen] using hcm⟩, ⟨h.1, h1, fun h0 => ⟨g, 0, rfl, (Array.getElem?_eq_some_iff.1 hg).1, fun j u hu => ?_⟩⟩, hR, fun _ => ⟨g, 0, rfl, hS g hb⟩⟩
    have hc := h.cells (g := g) rfl j u hu
    have hadd : (⟨g, 0, none⟩ : Addr).add j = ⟨g, 0 + j, none⟩ := by unfold Addr.add; split <;> simp_all
    rw [hadd] at hc
    exact hc

theorem RSl.form {α : Type} {k : Nat} {R : World → List Value → α → Prop} {w : World} {v : Value} {l : List α} (h : RSl S k R w v l) :
    ∃ A cap, v = .slice A l.length cap ∧ l.length ≤ cap ∧ cap ≤ 9223372036854775807 := by
  obtain ⟨A, cap, xs, hv, hc, _, _, _⟩ := h; exact ⟨A, cap, hv, hc.1, hc.2⟩

theorem RSl.cel {α : Type} {k : Nat} {R : World → List Value → α → Prop} {w : World} {A : Option Addr} {n cap : Nat} {l : List α} (h : RSl S k R w (.slice A n cap) l) :
    n = l.length ∧ (n ≤ cap ∧ cap ≤ 9223372036854775807) ∧ ∃ xs, Cel w k A n xs ∧ ∀ i (h : i < l.length), R w (chunk k xs i) l[i] := by
  obtain ⟨A', cap', xs, hv, hc, hl, hr, _⟩ := h
  cases hv
  exact ⟨rfl, hc, xs, hl, hr⟩

/-- The elements' cells, one element at a time. -/
theorem RSl.elem {α : Type} {k : Nat} {R : World → List Value → α → Prop} {w : World} {A : Option Addr} {n cap : Nat} {l : List α} (h : RSl S k R w (.slice A n cap) l) : n = l.length ∧ (n ≤ cap ∧ cap ≤ 9223372036854775807) ∧
    (0 < n → ∃ b off, A = some ⟨b, off, none⟩ ∧ b < w.heap.size ∧ ∀ i (h : i < l.length), ∃ cs : List Value, cs.length = k ∧ (∀ j u, cs[j]? = some u → w.cell? ⟨b, off + i * k + j, none⟩ = some u) ∧ R w cs l[i]) := by
  obtain ⟨hn, hc, xs, ⟨h1, h2, h3⟩, hr⟩ := h.cel
  refine ⟨hn, hc, fun h0 => ?_⟩
  obtain ⟨b, off, ha, hb, hx⟩ := h3 h0
  refine ⟨b, off, ha, hb, fun i hi => ⟨chunk k xs i, chunk_length h1 (by omega), fun j u hu => ?_, hr i hi⟩⟩
  rw [Nat.add_assoc]
  exact hx _ u (chunk_get hu)

/-- One byte. -/
def RByte (_ : World) (cs : List Value) (c : UInt8) : Prop := cs = [.int .u8 c.toNat]
/-- Bytes. -/
def RBs (S : Nat → Prop) (w : World) (v : Value) (l : List UInt8) : Prop := RSl S 1 RByte w v l
theorem RBs.ext {w w' : World} {v : Value} {l : List UInt8} (h : RBs S w v l) (he : Ext w w') : RBs S w' v l := RSl.ext h he fun _ _ h => h
/-- A cell that holds a slice of bytes. -/
def RB1 (S : Nat → Prop) (w : World) (cs : List Value) (l : List UInt8) : Prop := ∃ v, cs = [v] ∧ RBs S w v l
theorem RB1.ext {w w' : World} {cs : List Value} {l : List UInt8} (h : RB1 S w cs l) (he : Ext w w') : RB1 S w' cs l := by
  obtain ⟨v, hv, h⟩ := h; exact ⟨v, hv, h.ext he⟩
/-- A slice of slices of bytes. -/
def RBss (S : Nat → Prop) (w : World) (v : Value) (l : List (List UInt8)) : Prop := RSl S 1 (RB1 S) w v l
theorem RBss.ext {w w' : World} {v : Value} {l : List (List UInt8)} (h : RBss S w v l) (he : Ext w w') : RBss S w' v l := RSl.ext h he fun _ _ h => h.ext he

theorem RBs.keep {w w' : World} {v : Value} {l : List UInt8} (h : RBs S w v l) (hz : w.heap.size ≤ w'.heap.size) (hk : ∀ b, S b → b < w.heap.size → w'.heap[b]? = w.heap[b]?) : RBs S w' v l := RSl.keep h hz hk fun _ _ h => h
theorem RBs.sub {w : World} {v : Value} {l : List UInt8} (h : RBs S w v l) (hs : ∀ b, S b → S' b) : RBs S' w v l := RSl.sub h hs fun _ _ h => h
theorem RB1.sub {w : World} {cs : List Value} {l : List UInt8} (h : RB1 S w cs l) (hs : ∀ b, S b → S' b) : RB1 S' w cs l := by
  obtain ⟨v, hv, h⟩ := h; exact ⟨v, hv, h.sub hs⟩
theorem RB1.keep {w w' : World} {cs : List Value} {l : List UInt8} (h : RB1 S w cs l) (hz : w.heap.size ≤ w'.heap.size) (hk : ∀ b, S b → b < w.heap.size → w'.heap[b]? = w.heap[b]?) : RB1 S w' cs l := by
  obtain ⟨v, hv, h⟩ := h; exact ⟨v, hv, h.keep hz hk⟩
theorem RBss.keep {w w' : World} {v : Value} {l : List (List UInt8)} (h : RBss S w v l) (hz : w.heap.size ≤ w'.heap.size) (hk : ∀ b, S b → b < w.heap.size → w'.heap[b]? = w.heap[b]?) : RBss S w' v l := RSl.keep h hz hk fun _ _ h => h.keep hz hk
theorem RBss.sub {w : World} {v : Value} {l : List (List UInt8)} (h : RBss S w v l) (hs : ∀ b, S b → S' b) : RBss S' w v l := RSl.sub h hs fun _ _ h => h.sub hs
theorem RBs.up {w w0 : World} {v : Value} {l : List UInt8} (h : RBs S w v l) : RBs (Fr S w0) w v l := h.sub fun _ => .inl
theorem RBss.up {w w0 : World} {v : Value} {l : List (List UInt8)} (h : RBss S w v l) : RBss (Fr S w0) w v l := h.sub fun _ => .inl
theorem Fr.new {w : World} {B : Nat} (hB : w.heap.size ≤ B) : ∀ b, B ≤ b → Fr S w b := fun _ h => .inr (Nat.le_trans hB h)

/-- The i-th byte's cell. -/
theorem RBs.at {w : World} {A : Option Addr} {n cap : Nat} {l : List UInt8} (h : RBs S w (.slice A n cap) l) : n = l.length ∧ (n ≤ cap ∧ cap ≤ 9223372036854775807) ∧
    (0 < n → ∃ b off, A = some ⟨b, off, none⟩ ∧ b < w.heap.size ∧ ∀ i (h : i < l.length), w.cell? ⟨b, off + i, none⟩ = some (.int .u8 l[i].toNat)) := by
  obtain ⟨hn, hc, hl⟩ := RSl.elem h
  refine ⟨hn, hc, fun h0 => ?_⟩
  obtain ⟨b, off, ha, hb, hx⟩ := hl h0
  refine ⟨b, off, ha, hb, fun i hi => ?_⟩
  obtain ⟨cs, hk, hcs, hr⟩ := hx i hi
  unfold RByte at hr; subst hr
  simpa using hcs 0 _ rfl

theorem RBss.at {w : World} {A : Option Addr} {n cap : Nat} {l : List (List UInt8)} (h : RBss S w (.slice A n cap) l) : n = l.length ∧ (n ≤ cap ∧ cap ≤ 9223372036854775807) ∧
    (0 < n → ∃ b off, A = some ⟨b, off, none⟩ ∧ b < w.heap.size ∧ ∀ i (h : i < l.length), ∃ v, w.cell? ⟨b, off + i, none⟩ = some v ∧ RBs S w v l[i]) := by
  obtain ⟨hn, hc, hl⟩ := RSl.elem h
  refine ⟨hn, hc, fun h0 => ?_⟩
  obtain ⟨b, off, ha, hb, hx⟩ := hl h0
  refine ⟨b, off, ha, hb, fun i hi => ?_⟩
  obtain ⟨cs, hk, hcs, v, rfl, hr⟩ := hx i hi
  exact ⟨v, by simpa using hcs 0 _ rfl, hr⟩

theorem RBs.form {w : World} {v : Value} {l : List UInt8} (h : RBs S w v l) : ∃ A cap, v = .slice A l.length cap ∧ l.length ≤ cap ∧ cap ≤ 9223372036854775807 := RSl.form h
theorem RBss.form {w : World} {v : Value} {l : List (List UInt8)} (h : RBss S w v l) : ∃ A cap, v = .slice A l.length cap ∧ l.length ≤ cap ∧ cap ≤ 9223372036854775807 := RSl.form h

/-- The cells of bytes. -/
def byteVals (l : List UInt8) : List Value := l.map fun c => .int .u8 c.toNat
theorem byteVals_one (l : List UInt8) : ∀ u ∈ byteVals l, u.oneCell' = true := by
  intro u hu
  simp only [byteVals, List.mem_map] at hu
  obtain ⟨c, _, rfl⟩ := hu
  rfl
theorem RBs.vals {w : World} {A : Option Addr} {n cap : Nat} {l : List UInt8} (h : RBs S w (.slice A n cap) l) : n = l.length ∧ (n ≤ cap ∧ cap ≤ 9223372036854775807) ∧ Cel w 1 A n (byteVals l) := by
  obtain ⟨rfl, hc, xs, h1, hr⟩ := RSl.cel h
  refine ⟨rfl, hc, ?_⟩
  have hl : xs.length = l.length := by have := h1.1; omega
  have : xs = byteVals l := by
    apply List.ext_getElem (by simp [byteVals, hl])
    intro i h2 h3
    have := hr i (by omega)
    unfold RByte at this
    rw [chunk_one h2] at this
    simp [byteVals]
    simpa using this
  rw [this] at h1
  exact h1
theorem RBs.own {w : World} {base : Nat} {e : TypeId} {v : Value} {n : Nat} {l : List UInt8} (h : w.ownsRow base e 1 v n (byteVals l)) (hS : ∀ b, base ≤ b → S b) : RBs S w v l := by
  have hl : n = l.length := by have := h.1; simp [byteVals] at this; exact this.symm
  exact RSl.own h hS hl (byteVals_one l) fun i hi => by
    unfold RByte
    rw [chunk_one (by simpa [byteVals] using hi)]
    simp [byteVals]

end Go.Proofs.Ytjmdodgmoehfkaa
