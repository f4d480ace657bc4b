/- Contract of the reference's New. -/
import Derived.Test.YtklhgghlkidfjaaDiskO
import Derived.Test.YtklhgghlkidfjaaLoc
namespace Go.Proofs.Ytklhgghlkidfjaa
open Go.RowKit

variable {S S' : Nat → Prop}

attribute [local go_sem] make128


/-- The rows of New's loop. -/
def ZeroRows (w wr : World) (vs : List Value) : Prop := ∀ u ∈ vs, ∃ b, u = .slice (some ⟨b, 0, none⟩) 128 128 ∧ Blk wr b 5 zeros128 ∧ w.heap.size ≤ b

theorem zeroRows_read {w wr : World} {vs : List Value} (h : ZeroRows w wr vs) : ∀ u ∈ vs, RBs (Fr S w) wr u (List.replicate 128 0) := fun u hu => by
  obtain ⟨b, rfl, hb, hw⟩ := h u hu
  have := own_of_blk (n := 128) (cap := 128) (k := 1) hb (Nat.le_refl _) (by omega) (by simp [zeros128, byteVals]) (Nat.le_refl b)
  rw [List.take_of_length_le (by simp [zeros128, byteVals])] at this
  exact RBs.own this (fun b' h' => .inr (Nat.le_trans hw h'))

set_option maxHeartbeats 2000000 in
theorem rnew_ok (n : Int) (w : World) (h1 : 1 ≤ n) (h2 : n ≤ 4096) : Calls Try.prog 13 #[.int .i64 n] w (RDE S w (Dk.new n).1 (Dk.new n).2) := by
  obtain ⟨m, rfl⟩ : ∃ m : Nat, n = m := ⟨n.toNat, by omega⟩
  go_enter Try.func13, Try.ntmps13
  go_wp2
  go_loopw [5] (fun i wr => ∃ (k : Nat) (v : Value) (vs : List Value), k ≤ m ∧ i = .int .i64 k ∧ Hid (Ext w wr) ∧ Hid (Blk wr w.heap.size 25 [.slice none 0 0, .slice none 0 0, .int .i64 0, .bool false])
      ∧ Hid (Blk wr (w.heap.size + 1) 25 [v, .slice none 0 0, .int .i64 (-1), .bool false]) ∧ Hid (wr.ownsRow (w.heap.size + 2) 35 1 v k vs) ∧ Hid (ZeroRows w wr vs)) (fun i _ => m - (intOf i).toNat)
  case atStart => exact ⟨0, .slice none 0 0, [], Nat.zero_le _, rfl, Lib.hid (((Ext.refl _).alloc _).alloc _), Lib.hid ((Blk.new w w.heap.size _ _ rfl).alloc _), Lib.hid (Blk.new _ (w.heap.size + 1) _ _ (by simp)), Lib.hid (World.ownsRow_nil _ _ _ _), Lib.hid (fun u hu => by cases hu)⟩
  case round =>
    obtain ⟨k, v, vs, hk, rfl, HX, B0, B1, HO, HZ⟩ := hrel
    obtain ⟨k0, z0⟩ := B0.out.rule
    obtain ⟨k1, z1⟩ := B1.out.rule
    have hl1 := B1.out.lt
    obtain ⟨A, c, rfl, hc1, hc2⟩ := own_any HO.out
    by_cases hlt : k < m
    · go_wp2_with fail
      have hr0 := Ext.refl wr
      have hl0 : w.heap.size < wr.heap.size := B0.out.lt

      have HR0 := Lib.hid hr0
      clear hr0
      go_region_law (first | (refine step_app elBss rfl rfl rfl rfl (ys := [.slice (some ⟨wr.heap.size, 0, none⟩) 128 128]) (own_ext HO.out (by (repeat (first | (with_reducible refine Ext.alloc ?_ _) | (with_reducible refine Ext.drew ?_))); exact HR0.out)) (Blk.cel (n := wr.heap.size + 1) (t := 35) (by (repeat (first | (with_reducible refine Blk.drew ?_) | (with_reducible refine Blk.newE ?_ ?_))) <;> simp) rfl (slice_one _ _ _)) (by simp; omega) (by omega) (by omega) ?_; intro v' w' hown' hg' hor'; obtain ⟨A2, c2, rfl, hc3, hc4⟩ := own_any hown'; have C0 : Hid (Blk w' w.heap.size 25 [.slice none 0 0, .slice none 0 0, .int .i64 0, .bool false]) := Lib.hid (Blk.grown (by (repeat (first | (with_reducible refine Blk.alloc ?_ _) | (with_reducible refine Blk.drew ?_))); exact B0.out) hg' (own_ne HO.out (by omega))); have C1 : Hid (Blk w' (w.heap.size + 1) 25 [.slice A k c, .slice none 0 0, .int .i64 (-1), .bool false]) := Lib.hid (Blk.grown (by (repeat (first | (with_reducible refine Blk.alloc ?_ _) | (with_reducible refine Blk.drew ?_))); exact B1.out) hg' (own_ne HO.out (by omega))); have CN := Lib.hid (grown_blk (own_ext HO.out (by (repeat (first | (with_reducible refine Ext.alloc ?_ _) | (with_reducible refine Ext.drew ?_))); exact HR0.out)) hg' (b := wr.heap.size) (t := 5) (cs := zeros128) (by (repeat (first | (with_reducible refine Blk.newE ?_ ?_) | (with_reducible refine Blk.alloc ?_ _) | (with_reducible refine Blk.drew ?_))) <;> simp) (by decide)); have HO' := Lib.hid hown'; have HX' : Hid (Ext w w') := Lib.hid (Ext.grown (a := w) (by (repeat (first | (with_reducible refine Ext.alloc ?_ _) | (with_reducible refine Ext.drew ?_))); exact HX.out) hg' (fun k hk => by have := (HO.out.lt k hk).1; omega)); have HG' := Lib.hid hg'; clear hown' hg' hor'; obtain ⟨k2, z2⟩ := C1.out.rule; have hl2 := C1.out.lt))
      all_goals
        go_wp2
        go_roundw
        case rel =>
          refine ⟨k + 1, .slice A2 (k + 1) c2, vs ++ [.slice (some ⟨wr.heap.size, 0, none⟩) 128 128], by omega, by go_num, Lib.hid (HX'.out.setC (by omega)), Lib.hid (C0.out.farC (by omega)), Lib.hid (C1.out.setE rfl), Lib.hid (own_setC HO'.out (by omega)), Lib.hid fun u hu => ?_⟩
          rcases List.mem_append.1 hu with hu | hu
          · obtain ⟨b, rfl, hb, hw⟩ := HZ.out u hu
            exact ⟨b, rfl, (grown_blk (own_ext HO.out (by (repeat (first | (with_reducible refine Ext.alloc ?_ _) | (with_reducible refine Ext.drew ?_))); exact HR0.out)) HG'.out (b := b) (t := 5) (cs := zeros128) (by (repeat (first | (with_reducible refine Blk.alloc ?_ _) | (with_reducible refine Blk.drew ?_))); exact hb) (by decide)).farC (fun e => by subst e; exact hb.ne_tag B1.out (by decide) rfl), hw⟩
          · simp at hu
            subst hu
            exact ⟨_, rfl, CN.out.farC (by omega), by omega⟩
        case measure => simp [intOf]; omega
    · obtain rfl : k = m := by omega
      go_wp2
      obtain ⟨w3, e3, D0, hg3⟩ := set4 B0.out (.slice A k c) (.slice none 0 0) (.int .i64 (-1)) (.bool false)
      rw [e3]
      obtain ⟨k2, z2⟩ := D0.rule
      refine bodyPost_ret (v := .tuple #[.agg #[.slice A k c, .slice none 0 0, .int .i64 (-1), .bool false], .int .i64 0]) (by simp [results, Try.f13, go_sem, k2, z2]) rfl ?_
      have hvl : vs.length = k := by have := HO.out.1; omega
      refine RDE.mk (by unfold Dk.new; rw [if_neg (by omega)]) (RDk.mk ?_ (RSl.nil _)) (HX.out.grownN hg3 (Nat.le_refl _))
      refine RSl.own (own_grownN HO.out hg3 (by omega)) (fun b hb => .inr (by omega)) (by simp) (fun u hu => ?_) (fun i hi => ?_)
      · obtain ⟨b, rfl, _⟩ := HZ.out u hu
        rfl
      · have hi' : i < vs.length := by simp at hi; omega
        rw [chunk_one hi']
        refine ⟨_, rfl, ?_⟩
        rw [List.getElem_replicate]
        refine zeroRows_read (w := w) (vs := vs) (fun u hu => ?_) _ (List.getElem_mem hi')
        obtain ⟨b, rfl, hb, hw⟩ := HZ.out u hu
        exact ⟨b, rfl, hb.grownN hg3 (fun e => by subst e; exact hb.ne_tag B0.out (by decide) rfl), hw⟩

set_option maxHeartbeats 2000000 in
theorem rnew_bad (n : Int) (w : World) (h : n < 1 ∨ 4096 < n) : Calls Try.prog 13 #[.int .i64 n] w (RDE S w (Dk.new n).1 (Dk.new n).2) := by
  have HN : Hid (Dk.new n = (Dk.zero, 1)) := by show _ = _; unfold Dk.new; rw [if_pos h]
  rcases (by omega : n < 1 ∨ (1 ≤ n ∧ 4096 < n)) with h | ⟨h, h'⟩
  all_goals
    go_enter Try.func13, Try.ntmps13
    go_wp2
    refine bodyPost_ret (v := .tuple #[.agg #[.slice none 0 0, .slice none 0 0, .int .i64 0, .bool false], .int .i64 1]) (by simp [results, Try.f13, go_sem]) rfl ?_
    exact RDE.mk HN.out (RDk.zero _) ((Ext.refl _).alloc _)

theorem rnew_any (n : Int) (w : World) : Calls Try.prog 13 #[.int .i64 n] w (RDE S w (Dk.new n).1 (Dk.new n).2) := by
  by_cases h : n < 1 ∨ 4096 < n
  · exact rnew_bad n w h
  · exact rnew_ok n w (by omega) (by omega)

end Go.Proofs.Ytklhgghlkidfjaa
