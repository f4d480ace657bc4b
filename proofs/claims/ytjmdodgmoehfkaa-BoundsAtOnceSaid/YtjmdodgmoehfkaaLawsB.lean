/- More laws: a struct stored cell by cell, under one name. -/
import Derived.Test.YtjmdodgmoehfkaaLaws
namespace Go.Proofs.Ytjmdodgmoehfkaa
open Go.RowKit

variable {S S' : Nat → Prop}

theorem grown_setC {a w : World} {n i : Nat} {u : Value} (h : a.grownBy w (some n)) : a.grownBy (w.setCell ⟨n, i, none⟩ u) (some n) :=
  ⟨h.os, h.tape, h.output, by simpa [World.setCell] using h.size, fun k hk hne => (Below.heap_setCell w ⟨n, i, none⟩ u k (fun e => hne (by rw [e]))).trans (h.block k hk hne)⟩
theorem grown_rfl (w : World) (row : Option Nat) : w.grownBy w row := ⟨rfl, rfl, rfl, Nat.le_refl _, fun _ _ _ => rfl⟩

theorem set4 {w : World} {n : Nat} {t : TypeId} {p q r s : Value} (hb : Blk w n t [p, q, r, s]) (a b c d : Value) :
    ∃ w', (((w.setCell ⟨n, 0, none⟩ a).setCell ⟨n, 1, none⟩ b).setCell ⟨n, 2, none⟩ c).setCell ⟨n, 3, none⟩ d = w' ∧ Blk w' n t [a, b, c, d] ∧ w.grownBy w' (some n) :=
  ⟨_, rfl, (((hb.set 0 a).set 1 b).set 2 c).set 3 d, grown_setC (grown_setC (grown_setC (grown_setC (grown_rfl _ _))))⟩
theorem set3 {w : World} {n : Nat} {t : TypeId} {p q r : Value} (hb : Blk w n t [p, q, r]) (a b c : Value) :
    ∃ w', ((w.setCell ⟨n, 0, none⟩ a).setCell ⟨n, 1, none⟩ b).setCell ⟨n, 2, none⟩ c = w' ∧ Blk w' n t [a, b, c] ∧ w.grownBy w' (some n) :=
  ⟨_, rfl, ((hb.set 0 a).set 1 b).set 2 c, grown_setC (grown_setC (grown_setC (grown_rfl _ _)))⟩
theorem set2 {w : World} {n : Nat} {t : TypeId} {p q : Value} (hb : Blk w n t [p, q]) (a b : Value) :
    ∃ w', (w.setCell ⟨n, 0, none⟩ a).setCell ⟨n, 1, none⟩ b = w' ∧ Blk w' n t [a, b] ∧ w.grownBy w' (some n) :=
  ⟨_, rfl, (hb.set 0 a).set 1 b, grown_setC (grown_setC (grown_rfl _ _))⟩

/-- What was there reads as it did, where a block of the call's own (from the world a on) has changed. -/
theorem Ext.grownN {a w w' : World} {n : Nat} (h : Ext a w) (hg : w.grownBy w' (some n)) (hn : a.heap.size ≤ n) : Ext a w' :=
  h.grown hg (fun k hk => by injection hk with hk; omega)
theorem own_grownN {w w' : World} {base : Nat} {e : TypeId} {k : Nat} {v : Value} {m : Nat} {xs : List Value} {n : Nat} (h : w.ownsRow base e k v m xs) (hg : w.grownBy w' (some n)) (hn : n < base) : w'.ownsRow base e k v m xs :=
  h.kept hg (by
    cases hv : v.ownBlock with
    | none => exact .inl rfl
    | some g =>
      refine .inr (fun e => ?_)
      injection e with e
      have := (h.lt g hv).1
      omega)
theorem Blk.grownN {w w' : World} {m n : Nat} {t : TypeId} {cs : List Value} (h : Blk w m t cs) (hg : w.grownBy w' (some n)) (hn : m ≠ n) : Blk w' m t cs :=
  h.grown hg (fun e => hn (by injection e))

theorem Blk.below {w w' : World} {B n : Nat} {t : TypeId} {cs : List Value} (h : Blk w n t cs) (hb : Below B w w') (hn : n < B) : Blk w' n t cs := (hb.block n hn).trans h
theorem own_below {w w' : World} {base : Nat} {e : TypeId} {k : Nat} {g m c : Nat} {xs : List Value} {B : Nat} (h : w.ownsRow base e k (.slice (some ⟨g, 0, none⟩) m c) m xs) (hb : Below B w w') (hg : g < B) : w'.ownsRow base e k (.slice (some ⟨g, 0, none⟩) m c) m xs := by
  refine ⟨h.1, ?_⟩
  rcases h.2 with ⟨h', h0⟩ | ⟨g', cap, cur, h', hb', hg', rest⟩
  · cases h'
  · cases h'
    exact .inr ⟨g, c, cur, rfl, hb', (hb.block g hg).trans hg', rest⟩
theorem Ext.belowN {a w w' : World} {B : Nat} (h : Ext a w) (hb : Below B w w') (hB : a.heap.size ≤ B) : Ext a w' := Below.trans h (hb.mono hB)

theorem own_blk {w : World} {base : Nat} {e : TypeId} {k : Nat} {g n c : Nat} {xs : List Value} (h : w.ownsRow base e k (.slice (some ⟨g, 0, none⟩) n c) n xs) : ∃ cur : List Value, Blk w g e cur ∧ cur.length = c * k ∧ cur.take (n * k) = xs := by
  rcases h.2 with ⟨h', h0⟩ | ⟨g', cap, cur, h', hb', hg', hn, hm, hc, ht⟩
  · cases h'
  · cases h'
    exact ⟨cur.toList, by unfold Blk; rw [hg'], by simpa using hc, ht⟩

/-- One element of a slice of slices of bytes. -/
theorem RBss.get {w : World} {A : Option Addr} {n cap : Nat} {l : List (List UInt8)} (h : RBss S w (.slice A n cap) l) {i : Nat} {x : List UInt8} (hi : l[i]? = some x) :
    ∃ b off A' c', A = some ⟨b, off, none⟩ ∧ b < w.heap.size ∧ w.cell? ⟨b, off + i, none⟩ = some (.slice A' x.length c') ∧ RBs S w (.slice A' x.length c') x ∧ x.length ≤ c' ∧ c' ≤ 9223372036854775807 := by
  obtain ⟨hl, rfl⟩ := List.getElem?_eq_some_iff.1 hi
  obtain ⟨hn, _, hx⟩ := h.at
  obtain ⟨b, off, ha, hb, hc⟩ := hx (by omega)
  obtain ⟨v, c1, c2⟩ := hc i hl
  obtain ⟨A', c', rfl, h1, h2⟩ := c2.form
  exact ⟨b, off, A', c', ha, hb, c1, c2, h1, h2⟩

theorem RSl.inS {α : Type} {k : Nat} {R : World → List Value → α → Prop} {w : World} {A : Option Addr} {n cap : Nat} {l : List α} (h : RSl S k R w (.slice A n cap) l) : 0 < n → ∃ b off, A = some ⟨b, off, none⟩ ∧ S b := by
  obtain ⟨A', cap', xs, hv, hc, hl, hr, h4⟩ := h
  cases hv
  exact h4

/-- The beginning of a slice. -/
theorem RSl.take {α : Type} {k : Nat} {R : World → List Value → α → Prop} {w : World} {A : Option Addr} {n cap : Nat} {l : List α} (h : RSl S k R w (.slice A n cap) l) {m c : Nat} (hm : m ≤ n) (hc : m ≤ c) (hc2 : c ≤ 9223372036854775807) : RSl S k R w (.slice A m c) (l.take m) := by
  have hSS := h.inS
  obtain ⟨hn, _, xs, ⟨h1, h2, h3⟩, hr⟩ := h.cel
  have hmk : m * k ≤ n * k := Nat.mul_le_mul_right _ hm
  have hl : (l.take m).length = m := by rw [List.length_take]; omega
  refine ⟨A, c, xs.take (m * k), by rw [hl], ⟨by omega, hc2⟩, ⟨by rw [List.length_take, hl]; omega, fun u hu => h2 u (List.mem_of_mem_take hu), fun h0 => ?_⟩, fun i hi => ?_, fun h0 => hSS (by omega)⟩
  · obtain ⟨b, off, ha, hb, hx⟩ := h3 (by omega)
    refine ⟨b, off, ha, hb, fun j u hu => hx j u ?_⟩
    rw [List.getElem?_take] at hu
    split at hu
    · exact hu
    · cases hu
  · have hi' : i < m := by omega
    have : chunk k (xs.take (m * k)) i = chunk k xs i := by
      unfold chunk
      have : (i + 1) * k ≤ m * k := Nat.mul_le_mul_right _ hi'
      rw [Nat.add_mul, Nat.one_mul] at this
      rw [List.drop_take, List.take_take]
      congr 1
      omega
    rw [this, List.getElem_take]
    exact hr i (by omega)

end Go.Proofs.Ytjmdodgmoehfkaa
