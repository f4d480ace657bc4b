/- holds, walked. -/
import Derived.Test.YtklhgghlkidfjaaLawA
import Derived.Test.YtklhgghlkidfjaaSane
import Derived.Test.YtklhgghlkidfjaaPlainH
namespace Go.Proofs.Ytklhgghlkidfjaa
open Go.RowKit

variable {S S' : Nat → Prop}

set_option maxRecDepth 100000 in
set_option maxHeartbeats 4000000 in
theorem holds_main (A : Option Addr) (c : Nat) (B : Option Addr) (e : Nat) (d : Dk) (fa sa : List UInt8) (w : World) (hd : RDk S w (.agg #[(.slice A d.sectors.length c), (.slice B d.pending.length e), (.int .i64 d.left), (.bool d.stopped)]) d) (h4 : fa.length = 4) (h5 : sa.length = 4) (hb : ∀ i, i < 4 → HB d fa sa i) :
    Calls Try.prog 28 #[(.agg #[(.slice A d.sectors.length c), (.slice B d.pending.length e), (.int .i64 d.left), (.bool d.stopped)]), .agg (byteVals fa).toArray, .agg (byteVals sa).toArray] w (RB w true) := by
  refine calls_enter (l := [(.agg #[(.slice A d.sectors.length c), (.slice B d.pending.length e), (.int .i64 d.left), (.bool d.stopped)]), (.agg (byteVals fa).toArray), (.agg (byteVals sa).toArray)]) Try.func28 rfl rfl rfl (fun a hF => ?_)
  refine wp_seq_k (fun K1 hK1 => ?_)
  refine wp_region_lit ?_
  refine wpl_op (i := 0) rfl (o_new (fun g => (.pointer (some ⟨g, 0, none⟩))) [(.slice A d.sectors.length c), (.slice B d.pending.length e), (.int .i64 d.left), (.bool d.stopped)] 25 hF rfl rfl rfl rfl (rn_box (hF.get rfl) (by kernel_rfl)) ?_)
  intro g2 w3 a8 hF9 z6 z7 b4 hx5; clear hF
  refine wpl_op (i := 1) rfl (o_new (fun g => (.pointer (some ⟨g, 0, none⟩))) (byteVals fa) 44 hF9 rfl rfl rfl rfl (rn_box (hF9.get rfl) (box_arr _)) ?_)
  intro g10 w11 a16 hF17 z14 z15 b12 hx13; clear hF9
  refine wpl_op (i := 2) rfl (o_new (fun g => (.pointer (some ⟨g, 0, none⟩))) (byteVals sa) 44 hF17 rfl rfl rfl rfl (rn_box (hF17.get rfl) (box_arr _)) ?_)
  intro g18 w19 a24 hF25 z22 z23 b20 hx21; clear hF17
  refine wpl_op (i := 3) rfl (o_val (v := (.bool false)) hF25 rfl rfl rfl rfl (rn_assign rfl) ?_)
  intro a26 hF27; clear hF25
  refine wpList_nil ?_
  refine hK1 _ _ ?_
  clear hK1
  refine wp_seq_k (fun K28 hK28 => ?_)
  refine wp_seq_k (fun K29 hK29 => ?_)
  refine wp_region_lit ?_
  refine wpl_op (i := 0) rfl (o_val (v := (.int .i64 0)) hF27 rfl rfl rfl rfl (rn_assign rfl) ?_)
  intro a30 hF31; clear hF27
  refine wpList_nil ?_
  refine hK29 _ _ ?_
  clear hK29
  refine wp_block ?_
  refine wp_loop (fun a' W => ∃ (k : Nat), Sl 57 [(0, (.agg #[(.slice A d.sectors.length c), (.slice B d.pending.length e), (.int .i64 d.left), (.bool d.stopped)])), (1, (.agg (byteVals fa).toArray)), (2, (.agg (byteVals sa).toArray)), (3, (.pointer (some ⟨g2, 0, none⟩))), (4, (.pointer (some ⟨g10, 0, none⟩))), (5, (.pointer (some ⟨g18, 0, none⟩))), (6, (.bool false)), (7, (.int .i64 (k : Nat)))] a' ∧ Ext w19 W ∧ k ≤ 4) (fun a' _ => 4 - (intOf (a'.eval (.tmp 7))).toNat) ⟨0, ((((((((hF31.nil.cons (hF31.get (t := 7) (v := (.int .i64 0)) rfl)).cons (hF31.get (t := 6) (v := (.bool false)) rfl)).cons (hF31.get (t := 5) (v := (.pointer (some ⟨g18, 0, none⟩))) rfl)).cons (hF31.get (t := 4) (v := (.pointer (some ⟨g10, 0, none⟩))) rfl)).cons (hF31.get (t := 3) (v := (.pointer (some ⟨g2, 0, none⟩))) rfl)).cons (hF31.get (t := 2) (v := (.agg (byteVals sa).toArray)) rfl)).cons (hF31.get (t := 1) (v := (.agg (byteVals fa).toArray)) rfl)).cons (hF31.get (t := 0) (v := (.agg #[(.slice A d.sectors.length c), (.slice B d.pending.length e), (.int .i64 d.left), (.bool d.stopped)])) rfl)), Ext.refl _, (by omega)⟩ ?_
  rintro a32 w33 ⟨k, hF34, hx35, hp36⟩
  have hL37 := hF34
  have z38 := hx35.size
  clear hF31
  refine wp_seq_k (fun K39 hK39 => ?_)
  refine wp_seq_k (fun K40 hK40 => ?_)
  refine wp_region_lit ?_
  refine wpl_op (i := 0) rfl (o_val (v := (.int .i64 (k : Nat))) hF34 rfl rfl rfl rfl (rn_move (hF34.get rfl)) ?_)
  intro a41 hF42; clear hF34
  refine wpl_op (i := 1) rfl (o_val (v := (.bool (decide (((k : Nat) : Int) < (4 : Int))))) hF42 rfl rfl rfl rfl (rn_lss (hF42.get rfl) rfl) ?_)
  intro a43 hF44; clear hF42
  refine wpList_nil ?_
  refine hK40 _ _ ?_
  clear hK40
  by_cases hc45 : ((k : Nat) : Int) < (4 : Int)
  · skip
    have hbk := hb k (by omega)
    unfold HB at hbk
    have hbl : (d.read (k : Nat)).1.length = 128 := by rw [hbk]; exact two_len _ _
    refine wp_cond_true (c_true hF44 rfl (decide_eq_true hc45)) ?_
    refine wp_skip ?_
    refine hK39 _ _ ?_
    clear hK39
    refine wp_seq_k (fun K46 hK46 => ?_)
    refine wp_block ?_
    refine wp_seq_k (fun K47 hK47 => ?_)
    refine wp_region_lit ?_
    have b48 : Blk w33 g2 25 [(.slice A d.sectors.length c), (.slice B d.pending.length e), (.int .i64 d.left), (.bool d.stopped)] := (((b4.ext hx13).ext hx21).ext hx35)
    refine wpl_op (i := 0) rfl (o_val (v := (.agg #[(.slice A d.sectors.length c), (.slice B d.pending.length e), (.int .i64 d.left), (.bool d.stopped)])) hF44 rfl rfl rfl rfl (rn_loadBlk (hF44.get rfl) b48 Try.underlying25 rfl (by kernel_rfl : (Try.prog.info? 25).map (·.size) = some 4)) ?_)
    intro a49 hF50; clear hF44
    refine wpl_op (i := 1) rfl (o_val (v := (.int .i64 (k : Nat))) hF50 rfl rfl rfl rfl (rn_move (hF50.get rfl)) ?_)
    intro a51 hF52; clear hF50
    have d53 := ((((hd.ext hx5).ext hx13).ext hx21).ext hx35)
    refine wpl_op (i := 2) rfl (o_call hF52 rfl rfl rfl rfl (rn_call (args2 (hF52.get rfl) (hF52.get rfl)) rfl (by kernel_rfl)) (read_any (S := S) _ d _ _ d53) ?_)
    rintro _ w61 ⟨v58, rfl, hb57, hx62⟩
    obtain ⟨b54, o55, c56, rfl, hl60, hc59⟩ := hb57.nth (by rw [hbl]; omega)
    have hb57 := hb57.clip
    refine ⟨_, rfl, ?_⟩; intro a63 hF64; clear hF52; have z65 := hx62.size
    refine wpl_op (i := 3) rfl (o_val (v := (.tuple #[(.slice (some ⟨b54, o55, none⟩) (((d.read (k : Nat)).1).length) c56), (.int .i64 ((d.read (k : Nat)).2))])) hF64 rfl rfl rfl rfl (rn_move (hF64.get rfl)) ?_)
    intro a66 hF67; clear hF64
    refine wpl_op (i := 4) rfl (o_val (v := (.slice (some ⟨b54, o55, none⟩) (((d.read (k : Nat)).1).length) c56)) hF67 rfl rfl rfl rfl (rn_extract (hF67.get rfl) rfl) ?_)
    intro a68 hF69; clear hF67
    refine wpl_op (i := 5) rfl (o_val (v := (.int .i64 ((d.read (k : Nat)).2))) hF69 rfl rfl rfl rfl (rn_extract (hF69.get rfl) rfl) ?_)
    intro a70 hF71; clear hF69
    refine wpl_op (i := 6) rfl (o_val (v := (.slice (some ⟨b54, o55, none⟩) (((d.read (k : Nat)).1).length) c56)) hF71 rfl rfl rfl rfl (rn_assign (hF71.get rfl)) ?_)
    intro a72 hF73; clear hF71
    refine wpl_op (i := 7) rfl (o_val (v := (.int .i64 ((d.read (k : Nat)).2))) hF73 rfl rfl rfl rfl (rn_assign (hF73.get rfl)) ?_)
    intro a74 hF75; clear hF73
    refine wpList_nil ?_
    refine hK47 _ _ ?_
    clear hK47
    have hF76 := (((((((((((hF75.nil.cons (hF75.get (t := 9) (v := (.int .i64 ((d.read (k : Nat)).2))) rfl)).cons (hF75.get (t := 8) (v := (.slice (some ⟨b54, o55, none⟩) (((d.read (k : Nat)).1).length) c56)) rfl)).cons (hF75.get (t := 11) (v := (.bool (decide (((k : Nat) : Int) < (4 : Int))))) rfl)).cons (hF75.get (t := 7) (v := (.int .i64 (k : Nat))) rfl)).cons (hF75.get (t := 6) (v := (.bool false)) rfl)).cons (hF75.get (t := 5) (v := (.pointer (some ⟨g18, 0, none⟩))) rfl)).cons (hF75.get (t := 4) (v := (.pointer (some ⟨g10, 0, none⟩))) rfl)).cons (hF75.get (t := 3) (v := (.pointer (some ⟨g2, 0, none⟩))) rfl)).cons (hF75.get (t := 2) (v := (.agg (byteVals sa).toArray)) rfl)).cons (hF75.get (t := 1) (v := (.agg (byteVals fa).toArray)) rfl)).cons (hF75.get (t := 0) (v := (.agg #[(.slice A d.sectors.length c), (.slice B d.pending.length e), (.int .i64 d.left), (.bool d.stopped)])) rfl))
    clear hF75
    refine wp_seq_k (fun K77 hK77 => ?_)
    have hx79 : ∃ W, w61.drew = W ∧ Ext w61 W := ⟨_, rfl, (Ext.refl _).drew⟩
    obtain ⟨w78, e80, hx79⟩ := hx79
    have z81 := hx79.size
    refine any_start (fun W => Ext w78 W ∧ Blk W g10 44 (byteVals fa) ∧ Blk W g18 44 (byteVals sa)) (fun i => false) 37 #[false, false, false, false, false, false, false, false, false, false, false, false, false, false, false, false, false, false, false, false, false, false, false, false, false, false, false, false, false, false, false, false, false, false, false, false, false] rfl rfl rfl ?_
    rw [e80]; clear e80
    refine any_pure (i := 0) (v := (.int .i64 ((d.read (k : Nat)).2))) hF76 (by decide +kernel) (by decide +kernel) rfl rfl rfl rfl (fun _ _ _ _ h => h) rfl (fun W => (rn_move (hF76.get rfl))) ?_
    intro a82 hF83; clear hF76
    refine any_pure (i := 1) (v := (.bool (decide (((d.read (k : Nat)).2 : Int) ≠ (0 : Int))))) hF83 (by decide +kernel) (by decide +kernel) rfl rfl rfl rfl (fun _ _ _ _ h => h) rfl (fun W => (rn_neq (hF83.get rfl) rfl)) ?_
    intro a84 hF85; clear hF83
    refine any_pure (i := 2) (v := (.bool (decide (((d.read (k : Nat)).2 : Int) ≠ (0 : Int))))) hF85 (by decide +kernel) (by decide +kernel) rfl rfl rfl rfl (fun _ _ _ _ h => h) rfl (fun W => (rn_move (hF85.get rfl))) ?_
    intro a86 hF87; clear hF85
    refine any_pure (i := 3) (v := (.slice (some ⟨b54, o55, none⟩) (((d.read (k : Nat)).1).length) c56)) hF87 (by decide +kernel) (by decide +kernel) rfl rfl rfl rfl (fun _ _ _ _ h => h) (wanted_guard rfl rfl rfl hF87 rfl ((decide_eq_false (by rw [hbk]; simp)) : decide (((d.read (k : Nat)).2 : Int) ≠ (0 : Int)) = false) rfl) (fun W => (rn_move (hF87.get rfl))) ?_
    intro a89 hF90; clear hF87
    refine any_pure (i := 4) (v := (.int .i64 (((d.read (k : Nat)).1).length : Nat))) hF90 (by decide +kernel) (by decide +kernel) rfl rfl rfl rfl (fun _ _ _ _ h => h) (wanted_guard rfl rfl rfl hF90 rfl ((decide_eq_false (by rw [hbk]; simp)) : decide (((d.read (k : Nat)).2 : Int) ≠ (0 : Int)) = false) rfl) (fun W => (rn_len_slice Try.underlying35 (hF90.get rfl))) ?_
    intro a91 hF92; clear hF90
    refine any_pure (i := 5) (v := (.bool (decide (((((d.read (k : Nat)).1).length : Nat) : Int) ≠ (128 : Int))))) hF92 (by decide +kernel) (by decide +kernel) rfl rfl rfl rfl (fun _ _ _ _ h => h) (wanted_guard rfl rfl rfl hF92 rfl ((decide_eq_false (by rw [hbk]; simp)) : decide (((d.read (k : Nat)).2 : Int) ≠ (0 : Int)) = false) rfl) (fun W => (rn_neq (hF92.get rfl) rfl)) ?_
    intro a93 hF94; clear hF92
    refine any_pure (i := 6) (v := (.bool (decide (((((d.read (k : Nat)).1).length : Nat) : Int) ≠ (128 : Int))))) hF94 (by decide +kernel) (by decide +kernel) rfl rfl rfl rfl (fun _ _ _ _ h => h) rfl (fun W => (rn_pickF (c_false hF94 rfl ((decide_eq_false (by rw [hbk]; simp)) : decide (((d.read (k : Nat)).2 : Int) ≠ (0 : Int)) = false)) (hF94.get rfl))) ?_
    intro a95 hF96; clear hF94
    refine any_pure (i := 7) (v := (.bool (decide (((((d.read (k : Nat)).1).length : Nat) : Int) ≠ (128 : Int))))) hF96 (by decide +kernel) (by decide +kernel) rfl rfl rfl rfl (fun _ _ _ _ h => h) rfl (fun W => (rn_move (hF96.get rfl))) ?_
    intro a97 hF98; clear hF96
    refine any_pure (i := 8) (v := (.slice (some ⟨b54, o55, none⟩) (((d.read (k : Nat)).1).length) c56)) hF98 (by decide +kernel) (by decide +kernel) rfl rfl rfl rfl (fun _ _ _ _ h => h) (wanted_guard rfl rfl rfl hF98 rfl ((decide_eq_false (by omega)) : decide (((((d.read (k : Nat)).1).length : Nat) : Int) ≠ (128 : Int)) = false) rfl) (fun W => (rn_move (hF98.get rfl))) ?_
    intro a100 hF101; clear hF98
    refine any_pure (i := 9) (v := (.pointer (some ⟨b54, o55 + 0, none⟩))) hF101 (by decide +kernel) (by decide +kernel) rfl rfl rfl rfl (fun _ _ _ _ h => h) (wanted_guard rfl rfl rfl hF101 rfl ((decide_eq_false (by omega)) : decide (((((d.read (k : Nat)).1).length : Nat) : Int) ≠ (128 : Int)) = false) rfl) (fun W => (rn_index1 Try.underlying35 (by kernel_rfl : (Try.prog.info? 5).map (·.size) = some 1) (hF101.get rfl) rfl (by omega : (0 : Int) ≤ 0) (by omega : (0 : Int) < ((((d.read (k : Nat)).1).length : Nat) : Int)))) ?_
    intro a102 hF103; clear hF101
    have b105 : Blk w78 g10 44 (byteVals fa) := ((((b12.ext hx21).ext hx35).ext hx62).ext hx79)
    have b106 : Blk w78 g18 44 (byteVals sa) := (((b20.ext hx35).ext hx62).ext hx79)
    have hS104 : Ext w78 w78 ∧ Blk w78 g10 44 (byteVals fa) ∧ Blk w78 g18 44 (byteVals sa) := ⟨(Ext.refl w78), b105, b106⟩
    refine any_val (i := 10) (v := (.int .u8 ((((d.read (k : Nat)).1).getD 0 0).toNat : Nat))) hF103 (by decide +kernel) (by decide +kernel) rfl rfl rfl rfl (fun _ _ _ _ h => h) (wanted_guard rfl rfl rfl hF103 rfl ((decide_eq_false (by omega)) : decide (((((d.read (k : Nat)).1).length : Nat) : Int) ≠ (128 : Int)) = false) rfl) hS104 (fun W hW => (rn_load (isAgg_no Try.underlying5 rfl) (hF103.get rfl) (Ext.keep (((Ext.refl w61).trans hx79).trans hW.1) (hc59 0 (by rw [hbl]; omega))))) ?_
    intro a107 hF108; clear hF103
    refine any_pure (i := 11) (v := (.int .i64 (k : Nat))) hF108 (by decide +kernel) (by decide +kernel) rfl rfl rfl rfl (fun _ _ _ _ h => h) (wanted_guard rfl rfl rfl hF108 rfl ((decide_eq_false (by omega)) : decide (((((d.read (k : Nat)).1).length : Nat) : Int) ≠ (128 : Int)) = false) rfl) (fun W => (rn_move (hF108.get rfl))) ?_
    intro a109 hF110; clear hF108
    refine any_pure (i := 12) (v := (.pointer (some ⟨g10, 0 + k, none⟩))) hF110 (by decide +kernel) (by decide +kernel) rfl rfl rfl rfl (fun _ _ _ _ h => h) (wanted_guard rfl rfl rfl hF110 rfl ((decide_eq_false (by omega)) : decide (((((d.read (k : Nat)).1).length : Nat) : Int) ≠ (128 : Int)) = false) rfl) (fun W => (rn_indexArr Try.underlying44 (by kernel_rfl : (Try.prog.info? 5).map (·.size) = some 1) (hF110.get rfl) (hF110.get rfl) (by omega : (0 : Int) ≤ (k : Nat)) (by omega : ((k : Nat) : Int) < ((4 : Nat) : Int)))) ?_
    intro a111 hF112; clear hF110
    refine any_val (i := 13) (v := (.int .u8 ((fa.getD k 0).toNat : Nat))) hF112 (by decide +kernel) (by decide +kernel) rfl rfl rfl rfl (fun _ _ _ _ h => h) (wanted_guard rfl rfl rfl hF112 rfl ((decide_eq_false (by omega)) : decide (((((d.read (k : Nat)).1).length : Nat) : Int) ≠ (128 : Int)) = false) rfl) hS104 (fun W hW => (rn_load (isAgg_no Try.underlying5 rfl) (hF112.get rfl) (blk_byte hW.2.1 (by omega) (by have := h4; omega)))) ?_
    intro a113 hF114; clear hF112
    refine any_pure (i := 14) (v := (.bool (decide ((((((d.read (k : Nat)).1).getD 0 0).toNat : Nat) : Int) ≠ (((fa.getD k 0).toNat : Nat) : Int))))) hF114 (by decide +kernel) (by decide +kernel) rfl rfl rfl rfl (fun _ _ _ _ h => h) (wanted_guard rfl rfl rfl hF114 rfl ((decide_eq_false (by omega)) : decide (((((d.read (k : Nat)).1).length : Nat) : Int) ≠ (128 : Int)) = false) rfl) (fun W => (rn_neq (hF114.get rfl) (hF114.get rfl))) ?_
    intro a115 hF116; clear hF114
    refine any_pure (i := 15) (v := (.bool (decide ((((((d.read (k : Nat)).1).getD 0 0).toNat : Nat) : Int) ≠ (((fa.getD k 0).toNat : Nat) : Int))))) hF116 (by decide +kernel) (by decide +kernel) rfl rfl rfl rfl (fun _ _ _ _ h => h) rfl (fun W => (rn_pickF (c_false hF116 rfl ((decide_eq_false (by omega)) : decide (((((d.read (k : Nat)).1).length : Nat) : Int) ≠ (128 : Int)) = false)) (hF116.get rfl))) ?_
    intro a117 hF118; clear hF116
    refine any_pure (i := 16) (v := (.bool (decide ((((((d.read (k : Nat)).1).getD 0 0).toNat : Nat) : Int) ≠ (((fa.getD k 0).toNat : Nat) : Int))))) hF118 (by decide +kernel) (by decide +kernel) rfl rfl rfl rfl (fun _ _ _ _ h => h) rfl (fun W => (rn_move (hF118.get rfl))) ?_
    intro a119 hF120; clear hF118
    refine any_pure (i := 17) (v := (.slice (some ⟨b54, o55, none⟩) (((d.read (k : Nat)).1).length) c56)) hF120 (by decide +kernel) (by decide +kernel) rfl rfl rfl rfl (fun _ _ _ _ h => h) (wanted_guard rfl rfl rfl hF120 rfl ((decide_eq_false (by rw [hbk]; show ¬ ((((two _ _).getD 0 0).toNat : Nat) : Int) ≠ _; rw [two_0]; simp)) : decide ((((((d.read (k : Nat)).1).getD 0 0).toNat : Nat) : Int) ≠ (((fa.getD k 0).toNat : Nat) : Int)) = false) rfl) (fun W => (rn_move (hF120.get rfl))) ?_
    intro a122 hF123; clear hF120
    refine any_pure (i := 18) (v := (.pointer (some ⟨b54, o55 + 64, none⟩))) hF123 (by decide +kernel) (by decide +kernel) rfl rfl rfl rfl (fun _ _ _ _ h => h) (wanted_guard rfl rfl rfl hF123 rfl ((decide_eq_false (by rw [hbk]; show ¬ ((((two _ _).getD 0 0).toNat : Nat) : Int) ≠ _; rw [two_0]; simp)) : decide ((((((d.read (k : Nat)).1).getD 0 0).toNat : Nat) : Int) ≠ (((fa.getD k 0).toNat : Nat) : Int)) = false) rfl) (fun W => (rn_index1 Try.underlying35 (by kernel_rfl : (Try.prog.info? 5).map (·.size) = some 1) (hF123.get rfl) rfl (by omega : (0 : Int) ≤ 64) (by omega : (64 : Int) < ((((d.read (k : Nat)).1).length : Nat) : Int)))) ?_
    intro a124 hF125; clear hF123
    refine any_val (i := 19) (v := (.int .u8 ((((d.read (k : Nat)).1).getD 64 0).toNat : Nat))) hF125 (by decide +kernel) (by decide +kernel) rfl rfl rfl rfl (fun _ _ _ _ h => h) (wanted_guard rfl rfl rfl hF125 rfl ((decide_eq_false (by rw [hbk]; show ¬ ((((two _ _).getD 0 0).toNat : Nat) : Int) ≠ _; rw [two_0]; simp)) : decide ((((((d.read (k : Nat)).1).getD 0 0).toNat : Nat) : Int) ≠ (((fa.getD k 0).toNat : Nat) : Int)) = false) rfl) hS104 (fun W hW => (rn_load (isAgg_no Try.underlying5 rfl) (hF125.get rfl) (Ext.keep (((Ext.refl w61).trans hx79).trans hW.1) (hc59 64 (by rw [hbl]; omega))))) ?_
    intro a126 hF127; clear hF125
    refine any_pure (i := 20) (v := (.int .i64 (k : Nat))) hF127 (by decide +kernel) (by decide +kernel) rfl rfl rfl rfl (fun _ _ _ _ h => h) (wanted_guard rfl rfl rfl hF127 rfl ((decide_eq_false (by rw [hbk]; show ¬ ((((two _ _).getD 0 0).toNat : Nat) : Int) ≠ _; rw [two_0]; simp)) : decide ((((((d.read (k : Nat)).1).getD 0 0).toNat : Nat) : Int) ≠ (((fa.getD k 0).toNat : Nat) : Int)) = false) rfl) (fun W => (rn_move (hF127.get rfl))) ?_
    intro a128 hF129; clear hF127
    refine any_pure (i := 21) (v := (.pointer (some ⟨g18, 0 + k, none⟩))) hF129 (by decide +kernel) (by decide +kernel) rfl rfl rfl rfl (fun _ _ _ _ h => h) (wanted_guard rfl rfl rfl hF129 rfl ((decide_eq_false (by rw [hbk]; show ¬ ((((two _ _).getD 0 0).toNat : Nat) : Int) ≠ _; rw [two_0]; simp)) : decide ((((((d.read (k : Nat)).1).getD 0 0).toNat : Nat) : Int) ≠ (((fa.getD k 0).toNat : Nat) : Int)) = false) rfl) (fun W => (rn_indexArr Try.underlying44 (by kernel_rfl : (Try.prog.info? 5).map (·.size) = some 1) (hF129.get rfl) (hF129.get rfl) (by omega : (0 : Int) ≤ (k : Nat)) (by omega : ((k : Nat) : Int) < ((4 : Nat) : Int)))) ?_
    intro a130 hF131; clear hF129
    refine any_val (i := 22) (v := (.int .u8 ((sa.getD k 0).toNat : Nat))) hF131 (by decide +kernel) (by decide +kernel) rfl rfl rfl rfl (fun _ _ _ _ h => h) (wanted_guard rfl rfl rfl hF131 rfl ((decide_eq_false (by rw [hbk]; show ¬ ((((two _ _).getD 0 0).toNat : Nat) : Int) ≠ _; rw [two_0]; simp)) : decide ((((((d.read (k : Nat)).1).getD 0 0).toNat : Nat) : Int) ≠ (((fa.getD k 0).toNat : Nat) : Int)) = false) rfl) hS104 (fun W hW => (rn_load (isAgg_no Try.underlying5 rfl) (hF131.get rfl) (blk_byte hW.2.2 (by omega) (by have := h5; omega)))) ?_
    intro a132 hF133; clear hF131
    refine any_pure (i := 23) (v := (.bool (decide ((((((d.read (k : Nat)).1).getD 64 0).toNat : Nat) : Int) ≠ (((sa.getD k 0).toNat : Nat) : Int))))) hF133 (by decide +kernel) (by decide +kernel) rfl rfl rfl rfl (fun _ _ _ _ h => h) (wanted_guard rfl rfl rfl hF133 rfl ((decide_eq_false (by rw [hbk]; show ¬ ((((two _ _).getD 0 0).toNat : Nat) : Int) ≠ _; rw [two_0]; simp)) : decide ((((((d.read (k : Nat)).1).getD 0 0).toNat : Nat) : Int) ≠ (((fa.getD k 0).toNat : Nat) : Int)) = false) rfl) (fun W => (rn_neq (hF133.get rfl) (hF133.get rfl))) ?_
    intro a134 hF135; clear hF133
    refine any_pure (i := 24) (v := (.bool (decide ((((((d.read (k : Nat)).1).getD 64 0).toNat : Nat) : Int) ≠ (((sa.getD k 0).toNat : Nat) : Int))))) hF135 (by decide +kernel) (by decide +kernel) rfl rfl rfl rfl (fun _ _ _ _ h => h) rfl (fun W => (rn_pickF (c_false hF135 rfl ((decide_eq_false (by rw [hbk]; show ¬ ((((two _ _).getD 0 0).toNat : Nat) : Int) ≠ _; rw [two_0]; simp)) : decide ((((((d.read (k : Nat)).1).getD 0 0).toNat : Nat) : Int) ≠ (((fa.getD k 0).toNat : Nat) : Int)) = false)) (hF135.get rfl))) ?_
    intro a136 hF137; clear hF135
    refine any_pure (i := 25) (v := (.bool (decide ((((((d.read (k : Nat)).1).getD 64 0).toNat : Nat) : Int) ≠ (((sa.getD k 0).toNat : Nat) : Int))))) hF137 (by decide +kernel) (by decide +kernel) rfl rfl rfl rfl (fun _ _ _ _ h => h) rfl (fun W => (rn_move (hF137.get rfl))) ?_
    intro a138 hF139; clear hF137
    refine any_pure (i := 26) (v := (.slice (some ⟨b54, o55, none⟩) (((d.read (k : Nat)).1).length) c56)) hF139 (by decide +kernel) (by decide +kernel) rfl rfl rfl rfl (fun _ _ _ _ h => h) (wanted_guard rfl rfl rfl hF139 rfl ((decide_eq_false (by rw [hbk]; show ¬ ((((two _ _).getD 64 0).toNat : Nat) : Int) ≠ _; rw [two_64]; simp)) : decide ((((((d.read (k : Nat)).1).getD 64 0).toNat : Nat) : Int) ≠ (((sa.getD k 0).toNat : Nat) : Int)) = false) rfl) (fun W => (rn_move (hF139.get rfl))) ?_
    intro a141 hF142; clear hF139
    refine any_pure (i := 27) (v := (.pointer (some ⟨b54, o55 + 1, none⟩))) hF142 (by decide +kernel) (by decide +kernel) rfl rfl rfl rfl (fun _ _ _ _ h => h) (wanted_guard rfl rfl rfl hF142 rfl ((decide_eq_false (by rw [hbk]; show ¬ ((((two _ _).getD 64 0).toNat : Nat) : Int) ≠ _; rw [two_64]; simp)) : decide ((((((d.read (k : Nat)).1).getD 64 0).toNat : Nat) : Int) ≠ (((sa.getD k 0).toNat : Nat) : Int)) = false) rfl) (fun W => (rn_index1 Try.underlying35 (by kernel_rfl : (Try.prog.info? 5).map (·.size) = some 1) (hF142.get rfl) rfl (by omega : (0 : Int) ≤ 1) (by omega : (1 : Int) < ((((d.read (k : Nat)).1).length : Nat) : Int)))) ?_
    intro a143 hF144; clear hF142
    refine any_val (i := 28) (v := (.int .u8 ((((d.read (k : Nat)).1).getD 1 0).toNat : Nat))) hF144 (by decide +kernel) (by decide +kernel) rfl rfl rfl rfl (fun _ _ _ _ h => h) (wanted_guard rfl rfl rfl hF144 rfl ((decide_eq_false (by rw [hbk]; show ¬ ((((two _ _).getD 64 0).toNat : Nat) : Int) ≠ _; rw [two_64]; simp)) : decide ((((((d.read (k : Nat)).1).getD 64 0).toNat : Nat) : Int) ≠ (((sa.getD k 0).toNat : Nat) : Int)) = false) rfl) hS104 (fun W hW => (rn_load (isAgg_no Try.underlying5 rfl) (hF144.get rfl) (Ext.keep (((Ext.refl w61).trans hx79).trans hW.1) (hc59 1 (by rw [hbl]; omega))))) ?_
    intro a145 hF146; clear hF144
    refine any_pure (i := 29) (v := (.bool (decide ((((((d.read (k : Nat)).1).getD 1 0).toNat : Nat) : Int) ≠ (0 : Int))))) hF146 (by decide +kernel) (by decide +kernel) rfl rfl rfl rfl (fun _ _ _ _ h => h) (wanted_guard rfl rfl rfl hF146 rfl ((decide_eq_false (by rw [hbk]; show ¬ ((((two _ _).getD 64 0).toNat : Nat) : Int) ≠ _; rw [two_64]; simp)) : decide ((((((d.read (k : Nat)).1).getD 64 0).toNat : Nat) : Int) ≠ (((sa.getD k 0).toNat : Nat) : Int)) = false) rfl) (fun W => (rn_neq (hF146.get rfl) rfl)) ?_
    intro a147 hF148; clear hF146
    refine any_pure (i := 30) (v := (.bool (decide ((((((d.read (k : Nat)).1).getD 1 0).toNat : Nat) : Int) ≠ (0 : Int))))) hF148 (by decide +kernel) (by decide +kernel) rfl rfl rfl rfl (fun _ _ _ _ h => h) rfl (fun W => (rn_pickF (c_false hF148 rfl ((decide_eq_false (by rw [hbk]; show ¬ ((((two _ _).getD 64 0).toNat : Nat) : Int) ≠ _; rw [two_64]; simp)) : decide ((((((d.read (k : Nat)).1).getD 64 0).toNat : Nat) : Int) ≠ (((sa.getD k 0).toNat : Nat) : Int)) = false)) (hF148.get rfl))) ?_
    intro a149 hF150; clear hF148
    refine any_pure (i := 31) (v := (.bool (decide ((((((d.read (k : Nat)).1).getD 1 0).toNat : Nat) : Int) ≠ (0 : Int))))) hF150 (by decide +kernel) (by decide +kernel) rfl rfl rfl rfl (fun _ _ _ _ h => h) rfl (fun W => (rn_move (hF150.get rfl))) ?_
    intro a151 hF152; clear hF150
    refine any_pure (i := 32) (v := (.slice (some ⟨b54, o55, none⟩) (((d.read (k : Nat)).1).length) c56)) hF152 (by decide +kernel) (by decide +kernel) rfl rfl rfl rfl (fun _ _ _ _ h => h) (wanted_guard rfl rfl rfl hF152 rfl ((decide_eq_false (by rw [hbk]; show ¬ ((((two _ _).getD 1 0).toNat : Nat) : Int) ≠ _; rw [two_1]; simp)) : decide ((((((d.read (k : Nat)).1).getD 1 0).toNat : Nat) : Int) ≠ (0 : Int)) = false) rfl) (fun W => (rn_move (hF152.get rfl))) ?_
    intro a154 hF155; clear hF152
    refine any_pure (i := 33) (v := (.pointer (some ⟨b54, o55 + 127, none⟩))) hF155 (by decide +kernel) (by decide +kernel) rfl rfl rfl rfl (fun _ _ _ _ h => h) (wanted_guard rfl rfl rfl hF155 rfl ((decide_eq_false (by rw [hbk]; show ¬ ((((two _ _).getD 1 0).toNat : Nat) : Int) ≠ _; rw [two_1]; simp)) : decide ((((((d.read (k : Nat)).1).getD 1 0).toNat : Nat) : Int) ≠ (0 : Int)) = false) rfl) (fun W => (rn_index1 Try.underlying35 (by kernel_rfl : (Try.prog.info? 5).map (·.size) = some 1) (hF155.get rfl) rfl (by omega : (0 : Int) ≤ 127) (by omega : (127 : Int) < ((((d.read (k : Nat)).1).length : Nat) : Int)))) ?_
    intro a156 hF157; clear hF155
    refine any_val (i := 34) (v := (.int .u8 ((((d.read (k : Nat)).1).getD 127 0).toNat : Nat))) hF157 (by decide +kernel) (by decide +kernel) rfl rfl rfl rfl (fun _ _ _ _ h => h) (wanted_guard rfl rfl rfl hF157 rfl ((decide_eq_false (by rw [hbk]; show ¬ ((((two _ _).getD 1 0).toNat : Nat) : Int) ≠ _; rw [two_1]; simp)) : decide ((((((d.read (k : Nat)).1).getD 1 0).toNat : Nat) : Int) ≠ (0 : Int)) = false) rfl) hS104 (fun W hW => (rn_load (isAgg_no Try.underlying5 rfl) (hF157.get rfl) (Ext.keep (((Ext.refl w61).trans hx79).trans hW.1) (hc59 127 (by rw [hbl]; omega))))) ?_
    intro a158 hF159; clear hF157
    refine any_pure (i := 35) (v := (.bool (decide ((((((d.read (k : Nat)).1).getD 127 0).toNat : Nat) : Int) ≠ (0 : Int))))) hF159 (by decide +kernel) (by decide +kernel) rfl rfl rfl rfl (fun _ _ _ _ h => h) (wanted_guard rfl rfl rfl hF159 rfl ((decide_eq_false (by rw [hbk]; show ¬ ((((two _ _).getD 1 0).toNat : Nat) : Int) ≠ _; rw [two_1]; simp)) : decide ((((((d.read (k : Nat)).1).getD 1 0).toNat : Nat) : Int) ≠ (0 : Int)) = false) rfl) (fun W => (rn_neq (hF159.get rfl) rfl)) ?_
    intro a160 hF161; clear hF159
    refine any_pure (i := 36) (v := (.bool (decide ((((((d.read (k : Nat)).1).getD 127 0).toNat : Nat) : Int) ≠ (0 : Int))))) hF161 (by decide +kernel) (by decide +kernel) rfl rfl rfl rfl (fun _ _ _ _ h => h) rfl (fun W => (rn_pickF (c_false hF161 rfl ((decide_eq_false (by rw [hbk]; show ¬ ((((two _ _).getD 1 0).toNat : Nat) : Int) ≠ _; rw [two_1]; simp)) : decide ((((((d.read (k : Nat)).1).getD 1 0).toNat : Nat) : Int) ≠ (0 : Int)) = false)) (hF161.get rfl))) ?_
    intro a162 hF163; clear hF161
    refine any_nil (by decide +kernel) ?_
    refine hK77 _ _ ?_
    clear hK77
    have hF164 := ((((((((((((hF163.nil.cons (hF163.get (t := 56) (v := (.bool (decide ((((((d.read (k : Nat)).1).getD 127 0).toNat : Nat) : Int) ≠ (0 : Int))))) rfl)).cons (hF163.get (t := 9) (v := (.int .i64 ((d.read (k : Nat)).2))) rfl)).cons (hF163.get (t := 8) (v := (.slice (some ⟨b54, o55, none⟩) (((d.read (k : Nat)).1).length) c56)) rfl)).cons (hF163.get (t := 11) (v := (.bool (decide (((k : Nat) : Int) < (4 : Int))))) rfl)).cons (hF163.get (t := 7) (v := (.int .i64 (k : Nat))) rfl)).cons (hF163.get (t := 6) (v := (.bool false)) rfl)).cons (hF163.get (t := 5) (v := (.pointer (some ⟨g18, 0, none⟩))) rfl)).cons (hF163.get (t := 4) (v := (.pointer (some ⟨g10, 0, none⟩))) rfl)).cons (hF163.get (t := 3) (v := (.pointer (some ⟨g2, 0, none⟩))) rfl)).cons (hF163.get (t := 2) (v := (.agg (byteVals sa).toArray)) rfl)).cons (hF163.get (t := 1) (v := (.agg (byteVals fa).toArray)) rfl)).cons (hF163.get (t := 0) (v := (.agg #[(.slice A d.sectors.length c), (.slice B d.pending.length e), (.int .i64 d.left), (.bool d.stopped)])) rfl))
    clear hF163
    refine wp_cond_false (c_false hF164 rfl ((decide_eq_false (by rw [hbk]; show ¬ ((((two _ _).getD 127 0).toNat : Nat) : Int) ≠ _; rw [two_127]; simp)) : decide ((((((d.read (k : Nat)).1).getD 127 0).toNat : Nat) : Int) ≠ (0 : Int)) = false)) ?_
    refine wp_skip ?_
    refine hK46 _ _ ?_
    clear hK46
    refine wp_region_lit ?_
    refine wpl_op (i := 0) rfl (o_val (v := (.int .i64 (k : Nat))) hF164 rfl rfl rfl rfl (rn_move (hF164.get rfl)) ?_)
    intro a166 hF167; clear hF164
    refine wpl_op (i := 1) rfl (o_val (v := (.int .i64 ((k : Nat) + 1))) hF167 rfl rfl rfl rfl (rn_add (hF167.get rfl) rfl (by omega) (by omega)) ?_)
    intro a168 hF169; clear hF167
    refine wpl_op (i := 2) rfl (o_val (v := (.int .i64 ((k : Nat) + 1))) hF169 rfl rfl rfl rfl (rn_assign (hF169.get rfl)) ?_)
    intro a170 hF171; clear hF169
    refine wpList_nil ?_
    refine ⟨⟨k + 1, ((((((((hF171.nil.cons (q_get hF171 (t := 7) rfl (by first | rfl | (congr 1; omega)))).cons (q_get hF171 (t := 6) rfl rfl)).cons (q_get hF171 (t := 5) rfl rfl)).cons (q_get hF171 (t := 4) rfl rfl)).cons (q_get hF171 (t := 3) rfl rfl)).cons (q_get hF171 (t := 2) rfl rfl)).cons (q_get hF171 (t := 1) rfl rfl)).cons (q_get hF171 (t := 0) rfl rfl)), ((((Ext.refl w19).trans hx35).trans hx62).trans hx79), by omega⟩, ?_⟩
    rw [hF171.get (t := 7) rfl, hL37.get (t := 7) rfl]; simp [intOf]; omega
  · skip
    refine wp_cond_false (c_false hF44 rfl (decide_eq_false hc45)) ?_
    refine wp_exit ?_
    refine exit_then ?_
    refine exit_then ?_
    refine exit_here ?_
    refine hK28 _ _ ?_
    clear hK28
    refine wp_seq_k (fun K172 hK172 => ?_)
    refine wp_region_lit ?_
    refine wpl_op (i := 0) rfl (o_val (v := (.bool true)) hF44 rfl rfl rfl rfl (rn_assign rfl) ?_)
    intro a173 hF174; clear hF44
    refine wpList_nil ?_
    refine hK172 _ _ ?_
    clear hK172
    refine wp_ret ?_
    refine ret1 hF174 rfl rfl ?_
    exact ⟨congrArg (fun b => Ending.returned (.bool b)) (rfl : true = true), (((((Ext.refl w).trans hx5).trans hx13).trans hx21).trans hx35)⟩

theorem holds_any (v : Value) (d : Dk) (fa sa : List UInt8) (w : World) (hd : RDk S w v d) (h4 : fa.length = 4) (h5 : sa.length = 4) (hb : ∀ i, i < 4 → HB d fa sa i) :
    Calls Try.prog 28 #[v, .agg (byteVals fa).toArray, .agg (byteVals sa).toArray] w (RB w true) := by
  obtain ⟨A, c, B, e, rfl, -, -⟩ := hd.form
  exact holds_main A c B e d fa sa w hd h4 h5 hb

end Go.Proofs.Ytklhgghlkidfjaa
