/- Contracts of the reference's Check and Stop. -/
import Derived.Test.YtklhgghlkidfjaaDiskK
namespace Go.Proofs.Ytklhgghlkidfjaa
open Go.RowKit

variable {S S' : Nat → Prop}

set_option maxHeartbeats 2000000 in
theorem rcheck_any (v : Value) (d : Dk) (w : World) (hd : RDk S w v d) : Calls Try.prog 16 #[v] w (RI w d.check) := by
  obtain ⟨A, c, B, e, rfl, q1, q2⟩ := hd.form
  obtain ⟨f1, f1'⟩ := q1.at.2.1
  obtain ⟨f2, f2'⟩ := q2.at.2.1
  have HS := Lib.hid q1
  have HP := Lib.hid q2
  have HW : Hid (Ext w (w.alloc (.cells #[.slice A d.sectors.length c, .slice B d.pending.length e, .int .i64 d.left, .bool d.stopped] 25))) := (Ext.refl _).alloc _
  clear hd q1 q2
  by_cases hbad : d.sectors.length < 1 ∨ 4096 < d.sectors.length ∨ 4096 < d.pending.length ∨ d.left < -1 ∨ 65536 < d.left
  · have HB := Lib.hid (check_bad hbad)
    rcases (by omega : d.sectors.length < 1 ∨ (1 ≤ d.sectors.length ∧ 4096 < d.sectors.length) ∨ (1 ≤ d.sectors.length ∧ d.sectors.length ≤ 4096 ∧ 4096 < d.pending.length) ∨ (1 ≤ d.sectors.length ∧ d.sectors.length ≤ 4096 ∧ d.pending.length ≤ 4096 ∧ d.left < -1) ∨ (1 ≤ d.sectors.length ∧ d.sectors.length ≤ 4096 ∧ d.pending.length ≤ 4096 ∧ -1 ≤ d.left ∧ 65536 < d.left)) with h | ⟨h1, h2⟩ | ⟨h1, h2, h3⟩ | ⟨h1, h2, h3, h4⟩ | ⟨h1, h2, h3, h4, h5⟩
    all_goals
      clear hbad
      go_enter Try.func16, Try.ntmps16
      go_wp2
      go_ret
      exact ⟨ret_int HB.out, HW.out⟩
  · have hb1 : 1 ≤ d.sectors.length := by omega
    have hb2 : d.sectors.length ≤ 4096 := by omega
    have hb3 : d.pending.length ≤ 4096 := by omega
    have hb4 : -1 ≤ d.left := by omega
    have hb5 : d.left ≤ 65536 := by omega
    have HBAD := Lib.hid hbad
    clear hbad
    go_enter Try.func16, Try.ntmps16
    go_wp2
    go_loop [4] (fun i => ∃ k : Nat, k ≤ d.sectors.length ∧ i = .int .i64 k ∧ Hid ((d.sectors.take k).any badSector = false)) (fun i => d.sectors.length - (intOf i).toNat)
    case atStart => exact ⟨0, Nat.zero_le _, rfl, by show _ = _; simp⟩
    case round =>
      obtain ⟨k, hk, rfl, hno⟩ := hrel
      by_cases hlt : k < d.sectors.length
      · obtain ⟨x, hx, hxm⟩ := get_of_lt _ _ hlt
        obtain ⟨b, off, A', c', rfl, hb, c1, hv, hcv, hmv⟩ := HS.out.get hx
        have e1 := HW.out.keep c1
        have HXM := Lib.hid hxm
        have HTS : Hid ((d.sectors.take (k + 1)).any badSector = ((d.sectors.take k).any badSector || badSector x)) := by
          have := any_take_succ badSector d.sectors k hlt
          obtain ⟨_, hx'⟩ := List.getElem?_eq_some_iff.1 hx
          rw [hx'] at this
          exact this
        by_cases h128 : x.length = 128
        · have t1 : ((x.length : Int) != 128) = false := by simp [h128]
          have H128 := Lib.hid h128
          clear hx hxm c1 hv h128
          go_wp2
          go_round
          case rel => exact ⟨k + 1, by omega, by go_num, by show _ = _; rw [HTS.out, hno.out]; simp [badSector, H128.out]⟩
          case measure => simp [intOf]; omega
        · have t1 : ((x.length : Int) != 128) = true := by simp; omega
          have H128 := Lib.hid h128
          clear hx hxm c1 hv h128
          go_wp2
          go_ret
          exact ⟨ret_int (check_bad2 (.inr (List.any_eq_true.2 ⟨x, HXM.out, by simp [badSector, H128.out]⟩))), HW.out⟩
      · have HSS : Hid (d.sectors.any badSector = false) := by
          have := hno.out
          rw [List.take_of_length_le (by omega)] at this
          exact this
        clear hno
        go_wp2
        go_loopw [5] (fun i wr => ∃ j : Nat, j ≤ d.pending.length ∧ i = .int .i64 j ∧ Ext (w.alloc (.cells #[.slice A d.sectors.length c, .slice B d.pending.length e, .int .i64 d.left, .bool d.stopped] 25)) wr ∧ Hid ((d.pending.take j).any (badWrite d.sectors.length) = false)) (fun i _ => d.pending.length - (intOf i).toNat)
        case atStart => exact ⟨0, Nat.zero_le _, rfl, Ext.refl _, by show _ = _; simp⟩
        case round =>
          obtain ⟨j, hj, rfl, hxr, hno⟩ := hrel
          have B0 := Lib.hid ((Blk.new w w.heap.size _ _ rfl).ext hxr)
          obtain ⟨k0, z0⟩ := B0.out.rule
          have HXR := Lib.hid hxr
          clear hxr
          by_cases hlt2 : j < d.pending.length
          · obtain ⟨x, hx, hxm⟩ := get_of_lt _ _ hlt2
            obtain ⟨b, off, A', c', rfl, hb, c0, c1, hv, hcv, hmv⟩ := HP.out.get hx
            have e0 := (HW.out.trans HXR.out).keep c0
            have e1 := (HW.out.trans HXR.out).keep c1
            have HXM := Lib.hid hxm
            have hsz := HXR.out.size
            have HTS : Hid ((d.pending.take (j + 1)).any (badWrite d.sectors.length) = ((d.pending.take j).any (badWrite d.sectors.length) || badWrite d.sectors.length x)) := by
              have := any_take_succ (badWrite d.sectors.length) d.pending j hlt2
              obtain ⟨_, hx'⟩ := List.getElem?_eq_some_iff.1 hx
              rw [hx'] at this
              exact this
            clear hx hxm c0 c1 hv
            rcases (by omega : x.1 < 0 ∨ (0 ≤ x.1 ∧ (d.sectors.length : Int) ≤ x.1) ∨ (0 ≤ x.1 ∧ x.1 < d.sectors.length ∧ x.2.length ≠ 128) ∨ (0 ≤ x.1 ∧ x.1 < d.sectors.length ∧ x.2.length = 128)) with h | ⟨h, h'⟩ | ⟨h, h', h''⟩ | ⟨h, h', h''⟩
            · go_wp2
              go_ret
              exact ⟨ret_int (check_bad2 (.inl (List.any_eq_true.2 ⟨x, HXM.out, by simp [badWrite, h]⟩))), HW.out.trans (HXR.out.alloc _)⟩
            · go_wp2
              go_ret
              exact ⟨ret_int (check_bad2 (.inl (List.any_eq_true.2 ⟨x, HXM.out, by simp [badWrite, h']⟩))), HW.out.trans (HXR.out.alloc _)⟩
            · have t1 : ((x.2.length : Int) != 128) = true := by simp; omega
              have H'' := Lib.hid h''
              clear h''
              go_wp2
              go_ret
              exact ⟨ret_int (check_bad2 (.inl (List.any_eq_true.2 ⟨x, HXM.out, by simp [badWrite, H''.out]⟩))), HW.out.trans (HXR.out.alloc _)⟩
            · have t1 : ((x.2.length : Int) != 128) = false := by simp [h'']
              have H'' := Lib.hid h''
              clear h''
              go_wp2
              go_roundw
              case rel => exact ⟨j + 1, by omega, by go_num, HXR.out.alloc _, by show _ = _; rw [HTS.out, hno.out]; simp [badWrite, H''.out]; omega⟩
              case measure => simp [intOf]; omega
          · go_wp2
            go_ret
            have := hno.out
            rw [List.take_of_length_le (by omega)] at this
            exact ⟨ret_int (check_good HBAD.out this HSS.out), HW.out.trans HXR.out⟩

end Go.Proofs.Ytklhgghlkidfjaa
