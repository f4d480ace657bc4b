/- Contract of disk.perform. -/
import Derived.Test.YtklhgghlkidfjaaDiskC
namespace Go.Proofs.Ytklhgghlkidfjaa
open Go.RowKit

variable {S S' : Nat → Prop}

/-- The sectors after some writes. -/
def performL (ss : List (List UInt8)) (l : List (Int × List UInt8)) : List (List UInt8) := l.foldl (fun s x => s.set x.1.toNat x.2) ss
theorem performL_length (l : List (Int × List UInt8)) : ∀ ss : List (List UInt8), (performL ss l).length = ss.length := by
  induction l with
  | nil => intro ss; rfl
  | cons x l ih => intro ss; show (performL (ss.set x.1.toNat x.2) l).length = _; rw [ih]; simp
theorem performL_snoc (ss : List (List UInt8)) (l : List (Int × List UInt8)) (x : Int × List UInt8) : performL ss (l ++ [x]) = (performL ss l).set x.1.toNat x.2 := by
  simp [performL]

/-- returned a new row of slices (they read at the world w0) -/
def RPf (S : Nat → Prop) (w0 w : World) (l : List (List UInt8)) (en : Ending) (w' : World) : Prop :=
  ∃ v vs, en = .returned v ∧ w'.ownsRow w.heap.size 35 1 v l.length vs ∧ (∀ i (h : i < l.length) (h' : i < vs.length), RBs S w0 vs[i] l[i]) ∧ Ext w w'

set_option maxHeartbeats 1000000 in
theorem perform_any (v u : Value) (ss : List (List UInt8)) (l : List (Int × List UInt8)) (w0 w : World) (h0 : Ext w0 w) (hs : RBss S w0 v ss) (hl : RWs S w0 u l)
    (hb : ss.length ≤ 65536) (hb2 : l.length ≤ 65536) (hin : ∀ i (h : i < l.length), 0 ≤ l[i].1 ∧ l[i].1 < ss.length) :
    Calls Try.prog 40 #[v, u] w (RPf S w0 w (performL ss l)) := by
  obtain ⟨A, cap, rfl, hcap, hmax⟩ := hs.form
  obtain ⟨B, cap2, rfl, hcap2, hmax2⟩ := hl.form
  obtain ⟨_, _, xs, hcel, hrs⟩ := RSl.cel hs
  have HL := Lib.hid hl.at.2.2
  have HC := Lib.hid hcel
  have HR := Lib.hid hrs
  have HIN := Lib.hid hin
  clear hs hl hcel hrs hin
  go_enter Try.func40, Try.ntmps40
  go_wp2_with fail
  (with_reducible refine (cloneBs_any _ _ _ xs _ (HC.out.ext h0) (by omega)).mono ?_)
  rintro e1 w1 ⟨v1, rfl, hown, hx1⟩
  have HO := Lib.hid hown
  have HX := Lib.hid hx1
  clear hown hx1
  go_wp2_with fail
  go_loopw [12] (fun i wr => ∃ (k : Nat) (vs : List Value), k ≤ l.length ∧ i = .int .i64 k ∧ Ext w wr ∧ Hid (wr.ownsRow w.heap.size 35 1 v1 ss.length vs) ∧ Hid (∀ i (h : i < (performL ss (l.take k)).length) (h' : i < vs.length), RBs S w0 vs[i] (performL ss (l.take k))[i])) (fun i _ => l.length - (intOf i).toNat)
  case atStart =>
    refine ⟨0, xs, Nat.zero_le _, rfl, HX.out, HO, fun i h h' => ?_⟩
    have h : i < ss.length := h
    obtain ⟨x, hx, hr⟩ := HR.out i h
    rw [chunk_one h'] at hx
    injection hx with hx
    rw [hx]; exact hr
  case round =>
    obtain ⟨k, vs, hk, rfl, hbw, hown, hrd⟩ := hrel
    by_cases hlt : k < l.length
    · obtain ⟨bb, off, rfl, hbb, hc⟩ := HL.out (by omega)
      obtain ⟨x, c1, c2, hx⟩ := hc k hlt
      obtain ⟨i0, i1⟩ := HIN.out k hlt
      obtain ⟨g, cap3, rfl, hg1, hg2, hg3, hg4⟩ := own_form hown.out (by omega)
      obtain ⟨at_, hat⟩ : ∃ at_ : Nat, l[k].1 = at_ := ⟨l[k].1.toNat, by omega⟩
      have e1 := (h0.trans hbw).keep c1
      have e2 := (h0.trans hbw).keep c2
      rw [hat] at e1 i0 i1
      have HAT := Lib.hid hat
      have hsz := hbw.size
      have hvl : vs.length = ss.length := by have := hown.out.1; omega
      obtain ⟨u0, q1⟩ : ∃ u0, wr.cell? ⟨g, at_, none⟩ = some u0 := ⟨vs[at_]'(by omega), by rw [hown.out.cellAt at_ (by omega), List.getElem?_eq_getElem (by omega)]⟩
      have q2 := hown.out.frozenAt at_
      have HXX := Lib.hid hx
      have HVL := Lib.hid hvl
      obtain ⟨A', cap', hxf, hcap', hmax'⟩ := hx.form
      rw [hxf] at e2
      have HXF := Lib.hid hxf
      clear hc c1 c2 hat hx hvl hxf
      go_wp2
      go_roundw
      case rel =>
        refine ⟨k + 1, vs.set at_ x, by omega, by go_num, ?_, ?_, ?_⟩
        · exact (hbw.setCell (p := ⟨g, at_, none⟩) hg1 _).alloc _
        · rw [← HXF.out]; exact Lib.hid ((hown.out.stored at_ x).1.alloc _)
        · intro i h h'
          have hts : l.take (k + 1) = l.take k ++ [l[k]] := by rw [List.take_succ_eq_append_getElem hlt]
          simp only [hts, performL_snoc, HAT.out, Int.toNat_natCast] at h ⊢
          rw [List.getElem_set, List.getElem_set]
          split
          · exact HXX.out
          · exact hrd.out i (by simpa using h) (by simpa using h')
      case measure => simp [intOf]; omega
    · go_wp2
      go_ret
      refine ⟨v1, vs, rfl, ?_, ?_, hbw⟩
      · rw [performL_length]; exact hown.out
      · have := hrd.out
        rw [List.take_of_length_le (by omega)] at this
        exact this

end Go.Proofs.Ytklhgghlkidfjaa
