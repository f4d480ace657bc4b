/- Plain lemmas for the reference's Sync. -/
import Derived.Test.YtklhgghlkidfjaaRefC0
import Derived.Test.YtklhgghlkidfjaaLawA
namespace Go.Proofs.Ytklhgghlkidfjaa
open Go.RowKit

variable {S S' : Nat → Prop}

theorem perf_next {w : World} {ss : List (List UInt8)} {l : List (Int × List UInt8)} {k j : Nat} {x : Int × List UInt8} {vs : List Value} {v : Value} (hx : l[k]? = some x) (hv : RBs S w v x.2) (hj : j = 0 + x.1.toNat)
    (h : ∀ i (h : i < (performL ss (l.take k)).length) (h' : i < vs.length), RBs S w vs[i] (performL ss (l.take k))[i]) :
    ∀ i (h : i < (performL ss (l.take (k + 1))).length) (h' : i < (vs.set j v).length), RBs S w (vs.set j v)[i] (performL ss (l.take (k + 1)))[i] := by
  intro i h1 h2
  rw [Nat.zero_add] at hj
  subst hj
  obtain ⟨hk, rfl⟩ := List.getElem?_eq_some_iff.1 hx
  have hts : l.take (k + 1) = l.take k ++ [l[k]] := by rw [List.take_succ_eq_append_getElem hk]
  simp only [hts, performL_snoc] at h1 ⊢
  rw [List.getElem_set, List.getElem_set]
  split
  · exact hv
  · exact h i (by simpa using h1) (by simpa using h2)

theorem row_elem {w : World} {vs : List Value} {ps : List (List UInt8)} (h : ∀ i (h : i < ps.length) (h' : i < vs.length), RBs S w vs[i] ps[i]) (hl : vs.length = ps.length) {j : Nat} (hj : j < ps.length) :
    ∃ A c old, ps[j]? = some old ∧ vs[j]? = some (.slice A old.length c) ∧ RBs S w (.slice A old.length c) old ∧ old.length ≤ c ∧ c ≤ 9223372036854775807 := by
  have h1 := h j hj (by omega)
  obtain ⟨A, c, hf, h2, h3⟩ := h1.form
  refine ⟨A, c, ps[j], List.getElem?_eq_getElem hj, ?_, ?_, h2, h3⟩
  · rw [List.getElem?_eq_getElem (by omega), hf]
  · rw [← hf]; exact h1

theorem RBs.addr {w : World} {A : Option Addr} {n c : Nat} {l : List UInt8} (h : RBs S w (.slice A n c) l) (h0 : 0 < n) : ∃ b off, A = some ⟨b, off, none⟩ := by
  obtain ⟨_, _, hx⟩ := h.at
  obtain ⟨b, off, ha, _⟩ := hx h0
  exact ⟨b, off, ha⟩
theorem RBs.takeCel {w : World} {A : Option Addr} {n c : Nat} {l : List UInt8} (h : RBs S w (.slice A n c) l) {m : Nat} (hm : m ≤ n) : Cel w 1 A m (byteVals (l.take m)) := by
  obtain ⟨hn, _, h1, h2, h3⟩ := h.vals
  refine ⟨by rw [byteVals_length, List.length_take]; omega, byteVals_one _, fun h0 => ?_⟩
  obtain ⟨b, off, ha, hb, hx⟩ := h3 (by omega)
  refine ⟨b, off, ha, hb, fun j u hu => hx j u ?_⟩
  simp only [byteVals, List.map_take, List.getElem?_take] at hu
  split at hu
  · exact hu
  · cases hu
theorem RBs.dropCel {w : World} {b off n c : Nat} {l : List UInt8} (h : RBs S w (.slice (some ⟨b, off, none⟩) n c) l) {m : Nat} (hm : m ≤ n) : Cel w 1 (some ⟨b, off + m * 1, none⟩) (n - m) (byteVals (l.drop m)) := by
  obtain ⟨hn, _, h1, h2, h3⟩ := h.vals
  refine ⟨by rw [byteVals_length, List.length_drop]; omega, byteVals_one _, fun h0 => ?_⟩
  obtain ⟨b', off', ha, hb, hx⟩ := h3 (by omega)
  injection ha with ha
  cases ha
  refine ⟨b, off + m * 1, rfl, hb, fun j u hu => ?_⟩
  simp only [byteVals, List.map_drop, List.getElem?_drop] at hu
  rw [Nat.mul_one, Nat.add_assoc]
  exact hx _ u hu

theorem rsync_fin {w W : World} {d : Dk} {vs : List Value} {g cap base : Nat} {l : Int} {s : Bool} {n : Int} {ps : List (List UInt8)} (hx : Ext w W) (ho : W.ownsRow base 35 1 (.slice (some ⟨g, 0, none⟩) d.sectors.length cap) d.sectors.length vs) (hb : w.heap.size ≤ base)
    (hr : ∀ i (h : i < ps.length) (h' : i < vs.length), RBs (Fr S w) W vs[i] ps[i]) (hl : ps.length = d.sectors.length) (he : d.sync = (⟨ps, [], l, s⟩, n)) :
    RDE S w d.sync.1 d.sync.2 (.returned (.tuple #[.agg #[.slice (some ⟨g, 0, none⟩) d.sectors.length cap, .slice none 0 0, .int .i64 l, .bool s], .int .i64 n])) W := by
  refine RDE.mk he (RDk.mk ?_ (RSl.nil _)) hx
  have hv : vs.length = d.sectors.length := by have := ho.1; omega
  refine RSl.own (l := ps) ho (fun b h => .inr (Nat.le_trans hb h)) hl.symm (fun u hu => ?_) (fun i hi => ?_)
  · obtain ⟨i, hi, rfl⟩ := List.getElem_of_mem hu
    obtain ⟨A, c, h, _⟩ := (hr i (by omega) hi).form
    rw [h]; rfl
  · rw [chunk_one (by omega)]
    exact ⟨_, rfl, hr i hi (by omega)⟩

theorem torn_len {a b : List UInt8} (ha : a.length = 128) (hb : b.length = 128) : (torn a b).length = 128 := by simp [torn]; omega

theorem rsync_torn {w W : World} {vs : List Value} {ps : List (List UInt8)} {j g cap base n : Nat} {data old : List UInt8} {e : TypeId} (hx : Ext w W) (hr : ∀ i (h : i < ps.length) (h' : i < vs.length), RBs S w vs[i] ps[i])
    (ho : W.ownsRow base e 1 (.slice (some ⟨g, 0, none⟩) n cap) n (byteVals (data.take 64) ++ byteVals (old.drop 64))) (hb : w.heap.size ≤ base) :
    ∀ i (h : i < (ps.set j (torn data old)).length) (h' : i < (vs.set j (.slice (some ⟨g, 0, none⟩) n cap)).length), RBs (Fr S w) W (vs.set j (.slice (some ⟨g, 0, none⟩) n cap))[i] (ps.set j (torn data old))[i] := by
  intro i h1 h2
  rw [List.getElem_set, List.getElem_set]
  split
  · rw [← byteVals_append] at ho
    exact RBs.own ho (fun b h => .inr (Nat.le_trans hb h))
  · exact ((hr i (by simpa using h1) (by simpa using h2)).ext hx).up

end Go.Proofs.Ytklhgghlkidfjaa
