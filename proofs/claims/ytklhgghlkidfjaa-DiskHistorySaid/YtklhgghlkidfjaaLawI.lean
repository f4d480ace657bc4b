/- The law DiskHistory, walked. -/
import Derived.Test.YtklhgghlkidfjaaLawA
import Derived.Test.YtklhgghlkidfjaaSane
import Derived.Test.YtklhgghlkidfjaaLawH
namespace Go.Proofs.Ytklhgghlkidfjaa
open Go.RowKit

variable {S S' : Nat → Prop}

set_option maxRecDepth 100000 in
set_option maxHeartbeats 4000000 in
theorem history_any (C : Option Addr) (f : Nat) (l : List Ac) (lf : Int) (w : World) (ha : RAcs (Old w) w (.slice C l.length f) l) (hlf : 0 ≤ lf ∧ lf ≤ 255) :
    Calls Try.prog 6 #[(.slice C l.length f), (.int .u8 lf)] w (RB w true) := by
  obtain ⟨-, hq3, hq4⟩ := RSl.elem ha
  have hin := hist_init (left := lf) (by omega) (by omega)
  refine calls_enter (l := [(.slice C l.length f), (.int .u8 lf)]) Try.func6 rfl rfl rfl (fun a hF => ?_)
  refine wp_seq_k (fun K1 hK1 => ?_)
  refine wp_region_lit ?_
  refine wpl_op (i := 0) rfl (o_val (v := (.bool false)) hF rfl rfl rfl rfl (rn_assign rfl) ?_)
  intro a2 hF3; clear hF
  refine wpList_nil ?_
  refine hK1 _ _ ?_
  clear hK1
  refine wp_seq_k (fun K4 hK4 => ?_)
  refine wp_seq_k (fun K5 hK5 => ?_)
  refine wp_region_lit ?_
  refine wpl_op (i := 0) rfl (o_call hF3 rfl rfl rfl rfl (rn_call (args0 ) rfl (by kernel_rfl)) (sane_any _) ?_)
  rintro _ w6 ⟨rfl, hx7⟩
  refine ⟨_, rfl, ?_⟩; intro a8 hF9; clear hF3; have z10 := hx7.size
  refine wpl_op (i := 1) rfl (o_val (v := (.bool false)) hF9 rfl rfl rfl rfl (rn_not' (hF9.get rfl) rfl) ?_)
  intro a11 hF12; clear hF9
  refine wpList_nil ?_
  refine hK5 _ _ ?_
  clear hK5
  refine wp_cond_false (c_false hF12 rfl rfl) ?_
  refine wp_skip ?_
  refine hK4 _ _ ?_
  clear hK4
  refine wp_seq_k (fun K13 hK13 => ?_)
  refine wp_seq_k (fun K14 hK14 => ?_)
  refine wp_region_lit ?_
  refine wpl_op (i := 0) rfl (o_val (v := (.slice C l.length f)) hF12 rfl rfl rfl rfl (rn_move (hF12.get rfl)) ?_)
  intro a15 hF16; clear hF12
  refine wpl_op (i := 1) rfl (o_val (v := (.int .i64 (l.length : Nat))) hF16 rfl rfl rfl rfl (rn_len_slice Try.underlying43 (hF16.get rfl)) ?_)
  intro a17 hF18; clear hF16
  refine wpl_op (i := 2) rfl (o_val (v := (.bool (decide ((40 : Int) < ((l.length : Nat) : Int))))) hF18 rfl rfl rfl rfl (rn_gtr (hF18.get rfl) rfl) ?_)
  intro a19 hF20; clear hF18
  refine wpList_nil ?_
  refine hK14 _ _ ?_
  clear hK14
  by_cases hc21 : (40 : Int) < ((l.length : Nat) : Int)
  · skip
    refine wp_cond_true (c_true hF20 rfl (decide_eq_true hc21)) ?_
    refine wp_seq_k (fun K22 hK22 => ?_)
    refine wp_region_lit ?_
    refine wpl_op (i := 0) rfl (o_val (v := (.bool true)) hF20 rfl rfl rfl rfl (rn_assign rfl) ?_)
    intro a23 hF24; clear hF20
    refine wpList_nil ?_
    refine hK22 _ _ ?_
    clear hK22
    refine wp_ret ?_
    refine ret1 hF24 rfl rfl ?_
    exact ⟨congrArg (fun b => Ending.returned (.bool b)) (rfl : true = true), ((Ext.refl w).trans hx7)⟩
  · skip
    refine wp_cond_false (c_false hF20 rfl (decide_eq_false hc21)) ?_
    refine wp_skip ?_
    refine hK13 _ _ ?_
    clear hK13
    refine wp_seq_k (fun K25 hK25 => ?_)
    refine wp_region_lit ?_
    refine wpl_op (i := 0) rfl (o_call hF20 rfl rfl rfl rfl (rn_call (args1 rfl) rfl (by kernel_rfl)) (new_any (S := fun _ => False) _ _) ?_)
    rintro _ w32 ⟨v31, rfl, hd30, hx33⟩
    obtain ⟨A26, c27, B28, e29, rfl, -, -⟩ := hd30.form
    have hd30 := hd30.clip
    refine ⟨_, rfl, ?_⟩; intro a34 hF35; clear hF20; have z36 := hx33.size
    refine wpl_op (i := 1) rfl (o_val (v := (.tuple #[(.agg #[(.slice A26 (((Dk.new 4).1).sectors.length) c27), (.slice B28 (((Dk.new 4).1).pending.length) e29), (.int .i64 (((Dk.new 4).1).left)), (.bool (((Dk.new 4).1).stopped))]), (.int .i64 ((Dk.new 4).2))])) hF35 rfl rfl rfl rfl (rn_move (hF35.get rfl)) ?_)
    intro a37 hF38; clear hF35
    refine wpl_op (i := 2) rfl (o_val (v := (.agg #[(.slice A26 (((Dk.new 4).1).sectors.length) c27), (.slice B28 (((Dk.new 4).1).pending.length) e29), (.int .i64 (((Dk.new 4).1).left)), (.bool (((Dk.new 4).1).stopped))])) hF38 rfl rfl rfl rfl (rn_extract (hF38.get rfl) rfl) ?_)
    intro a39 hF40; clear hF38
    refine wpl_op (i := 3) rfl (o_val (v := (.int .i64 ((Dk.new 4).2))) hF40 rfl rfl rfl rfl (rn_extract (hF40.get rfl) rfl) ?_)
    intro a41 hF42; clear hF40
    refine wpl_op (i := 4) rfl (o_new (fun g => (.pointer (some ⟨g, 0, none⟩))) [(.slice none 0 0), (.slice none 0 0), (.int .i64 0), (.bool false)] 25 hF42 rfl rfl rfl rfl (by kernel_rfl) ?_)
    intro g43 w44 a49 hF50 z47 z48 b45 hx46; clear hF42
    refine wpl_op (i := 5) rfl (o_store (cells := [(.slice A26 (((Dk.new 4).1).sectors.length) c27), (.slice B28 (((Dk.new 4).1).pending.length) e29), (.int .i64 (((Dk.new 4).1).left)), (.bool (((Dk.new 4).1).stopped))]) hF50 rfl rfl rfl rfl (hF50.get rfl) (hF50.get rfl) b45 (by kernel_rfl : (Try.prog.info? 25).map (·.size) = some 4) rfl (by simp [Value.oneCell']) ?_)
    intro w51 b52 hg53; have z54 := hg53.size
    refine wpl_op (i := 6) rfl (o_val (v := (.int .i64 ((Dk.new 4).2))) hF50 rfl rfl rfl rfl (rn_assign (hF50.get rfl)) ?_)
    intro a55 hF56; clear hF50
    refine wpList_nil ?_
    refine hK25 _ _ ?_
    clear hK25
    have hF57 := (((((((hF56.nil.cons (hF56.get (t := 6) (v := (.int .i64 ((Dk.new 4).2))) rfl)).cons (hF56.get (t := 5) (v := (.pointer (some ⟨g43, 0, none⟩))) rfl)).cons (hF56.get (t := 25) (v := (.bool (decide ((40 : Int) < ((l.length : Nat) : Int))))) rfl)).cons (hF56.get (t := 22) (v := (.bool false)) rfl)).cons (hF56.get (t := 4) (v := (.bool false)) rfl)).cons (hF56.get (t := 1) (v := (.int .u8 lf)) rfl)).cons (hF56.get (t := 0) (v := (.slice C l.length f)) rfl))
    clear hF56
    refine wp_seq_k (fun K58 hK58 => ?_)
    refine wp_region_lit ?_
    refine wpl_op (i := 0) rfl (o_val (v := (.agg #[(.slice A26 (((Dk.new 4).1).sectors.length) c27), (.slice B28 (((Dk.new 4).1).pending.length) e29), (.int .i64 (((Dk.new 4).1).left)), (.bool (((Dk.new 4).1).stopped))])) hF57 rfl rfl rfl rfl (rn_loadBlk (hF57.get rfl) b52 Try.underlying25 rfl (by kernel_rfl : (Try.prog.info? 25).map (·.size) = some 4)) ?_)
    intro a59 hF60; clear hF57
    refine wpl_op (i := 1) rfl (o_val (v := (.int .u8 lf)) hF60 rfl rfl rfl rfl (rn_move (hF60.get rfl)) ?_)
    intro a61 hF62; clear hF60
    refine wpl_op (i := 2) rfl (o_val (v := (.int .i64 lf)) hF62 rfl rfl rfl rfl (rn_conv Try.underlying5 Try.underlying3 (hF62.get rfl) (IntWalk.i64_in _ (by omega))) ?_)
    intro a63 hF64; clear hF62
    have d65 := (hd30.pres (((Pres.refl w32).ext hx46).grownN hg53 (fun h => by simp only [Clip, Fr, Old] at h; omega)))
    refine wpl_op (i := 3) rfl (o_call hF64 rfl rfl rfl rfl (rn_call (args2 (hF64.get rfl) (hF64.get rfl)) rfl (by kernel_rfl)) (stop_any (S := (Clip (Fr (fun _ => False) w6) w32)) _ ((Dk.new 4).1) _ _ d65) ?_)
    rintro _ w72 ⟨v71, rfl, hd70, hx73⟩
    obtain ⟨A66, c67, B68, e69, rfl, -, -⟩ := hd70.form
    have hd70 := hd70.clip
    refine ⟨_, rfl, ?_⟩; intro a74 hF75; clear hF64; have z76 := hx73.size
    refine wpl_op (i := 4) rfl (o_val (v := (.tuple #[(.agg #[(.slice A66 (((((Dk.new 4).1).stop lf).1).sectors.length) c67), (.slice B68 (((((Dk.new 4).1).stop lf).1).pending.length) e69), (.int .i64 (((((Dk.new 4).1).stop lf).1).left)), (.bool (((((Dk.new 4).1).stop lf).1).stopped))]), (.int .i64 ((((Dk.new 4).1).stop lf).2))])) hF75 rfl rfl rfl rfl (rn_move (hF75.get rfl)) ?_)
    intro a77 hF78; clear hF75
    refine wpl_op (i := 5) rfl (o_val (v := (.agg #[(.slice A66 (((((Dk.new 4).1).stop lf).1).sectors.length) c67), (.slice B68 (((((Dk.new 4).1).stop lf).1).pending.length) e69), (.int .i64 (((((Dk.new 4).1).stop lf).1).left)), (.bool (((((Dk.new 4).1).stop lf).1).stopped))])) hF78 rfl rfl rfl rfl (rn_extract (hF78.get rfl) rfl) ?_)
    intro a79 hF80; clear hF78
    refine wpl_op (i := 6) rfl (o_val (v := (.int .i64 ((((Dk.new 4).1).stop lf).2))) hF80 rfl rfl rfl rfl (rn_extract (hF80.get rfl) rfl) ?_)
    intro a81 hF82; clear hF80
    have b86 : Blk w72 g43 25 [(.slice A26 (((Dk.new 4).1).sectors.length) c27), (.slice B28 (((Dk.new 4).1).pending.length) e29), (.int .i64 (((Dk.new 4).1).left)), (.bool (((Dk.new 4).1).stopped))] := (b52.ext hx73)
    refine wpl_op (i := 7) rfl (o_store (cells := [(.slice A66 (((((Dk.new 4).1).stop lf).1).sectors.length) c67), (.slice B68 (((((Dk.new 4).1).stop lf).1).pending.length) e69), (.int .i64 (((((Dk.new 4).1).stop lf).1).left)), (.bool (((((Dk.new 4).1).stop lf).1).stopped))]) hF82 rfl rfl rfl rfl (hF82.get rfl) (hF82.get rfl) b86 (by kernel_rfl : (Try.prog.info? 25).map (·.size) = some 4) rfl (by simp [Value.oneCell']) ?_)
    intro w83 b84 hg85; have z87 := hg85.size
    refine wpl_op (i := 8) rfl (o_val (v := (.int .i64 ((((Dk.new 4).1).stop lf).2))) hF82 rfl rfl rfl rfl (rn_assign (hF82.get rfl)) ?_)
    intro a88 hF89; clear hF82
    refine wpList_nil ?_
    refine hK58 _ _ ?_
    clear hK58
    have hF90 := ((((((((hF89.nil.cons (hF89.get (t := 7) (v := (.int .i64 ((((Dk.new 4).1).stop lf).2))) rfl)).cons (hF89.get (t := 6) (v := (.int .i64 ((Dk.new 4).2))) rfl)).cons (hF89.get (t := 5) (v := (.pointer (some ⟨g43, 0, none⟩))) rfl)).cons (hF89.get (t := 25) (v := (.bool (decide ((40 : Int) < ((l.length : Nat) : Int))))) rfl)).cons (hF89.get (t := 22) (v := (.bool false)) rfl)).cons (hF89.get (t := 4) (v := (.bool false)) rfl)).cons (hF89.get (t := 1) (v := (.int .u8 lf)) rfl)).cons (hF89.get (t := 0) (v := (.slice C l.length f)) rfl))
    clear hF89
    refine wp_seq_k (fun K91 hK91 => ?_)
    refine wp_seq_k (fun K92 hK92 => ?_)
    refine wp_region_lit ?_
    refine wpl_op (i := 0) rfl (o_val (v := (.int .i64 ((Dk.new 4).2))) hF90 rfl rfl rfl rfl (rn_move (hF90.get rfl)) ?_)
    intro a93 hF94; clear hF90
    refine wpl_op (i := 1) rfl (o_val (v := (.bool (decide (((Dk.new 4).2 : Int) ≠ (0 : Int))))) hF94 rfl rfl rfl rfl (rn_neq (hF94.get rfl) rfl) ?_)
    intro a95 hF96; clear hF94
    refine wpl_op (i := 2) rfl (o_val (v := (.bool (decide (((Dk.new 4).2 : Int) ≠ (0 : Int))))) hF96 rfl rfl rfl rfl (rn_move (hF96.get rfl)) ?_)
    intro a97 hF98; clear hF96
    refine wpl_op (i := 3) rfl (o_val (v := (.int .i64 ((((Dk.new 4).1).stop lf).2))) hF98 rfl (wanted_guard rfl rfl rfl hF98 rfl ((decide_eq_false (by rw [hin.2.1]; simp)) : decide (((Dk.new 4).2 : Int) ≠ (0 : Int)) = false) rfl) rfl rfl (rn_move (hF98.get rfl)) ?_)
    intro a100 hF101; clear hF98
    refine wpl_op (i := 4) rfl (o_val (v := (.bool (decide (((((Dk.new 4).1).stop lf).2 : Int) ≠ (0 : Int))))) hF101 rfl (wanted_guard rfl rfl rfl hF101 rfl ((decide_eq_false (by rw [hin.2.1]; simp)) : decide (((Dk.new 4).2 : Int) ≠ (0 : Int)) = false) rfl) rfl rfl (rn_neq (hF101.get rfl) rfl) ?_)
    intro a102 hF103; clear hF101
    refine wpl_op (i := 5) rfl (o_val (v := (.bool (decide (((((Dk.new 4).1).stop lf).2 : Int) ≠ (0 : Int))))) hF103 rfl rfl rfl rfl (rn_pickF (c_false hF103 rfl ((decide_eq_false (by rw [hin.2.1]; simp)) : decide (((Dk.new 4).2 : Int) ≠ (0 : Int)) = false)) (hF103.get rfl)) ?_)
    intro a104 hF105; clear hF103
    refine wpList_nil ?_
    refine hK92 _ _ ?_
    clear hK92
    have hF106 := (((((((((hF105.nil.cons (hF105.get (t := 42) (v := (.bool (decide (((((Dk.new 4).1).stop lf).2 : Int) ≠ (0 : Int))))) rfl)).cons (hF105.get (t := 7) (v := (.int .i64 ((((Dk.new 4).1).stop lf).2))) rfl)).cons (hF105.get (t := 6) (v := (.int .i64 ((Dk.new 4).2))) rfl)).cons (hF105.get (t := 5) (v := (.pointer (some ⟨g43, 0, none⟩))) rfl)).cons (hF105.get (t := 25) (v := (.bool (decide ((40 : Int) < ((l.length : Nat) : Int))))) rfl)).cons (hF105.get (t := 22) (v := (.bool false)) rfl)).cons (hF105.get (t := 4) (v := (.bool false)) rfl)).cons (hF105.get (t := 1) (v := (.int .u8 lf)) rfl)).cons (hF105.get (t := 0) (v := (.slice C l.length f)) rfl))
    clear hF105
    refine wp_cond_false (c_false hF106 rfl ((decide_eq_false (by rw [hin.2.2]; simp)) : decide (((((Dk.new 4).1).stop lf).2 : Int) ≠ (0 : Int)) = false)) ?_
    refine wp_skip ?_
    refine hK91 _ _ ?_
    clear hK91
    refine wp_seq_k (fun K108 hK108 => ?_)
    refine wp_region_lit ?_
    refine wpl_op (i := 0) rfl (o_new (fun g => (.pointer (some ⟨g, 0, none⟩))) [(.int .u8 0), (.int .u8 0), (.int .u8 0), (.int .u8 0)] 44 hF106 rfl rfl rfl rfl (by kernel_rfl) ?_)
    intro g109 w110 a115 hF116 z113 z114 b111 hx112; clear hF106
    refine wpl_op (i := 1) rfl (o_new (fun g => (.pointer (some ⟨g, 0, none⟩))) [(.int .u8 0), (.int .u8 0), (.int .u8 0), (.int .u8 0)] 44 hF116 rfl rfl rfl rfl (by kernel_rfl) ?_)
    intro g117 w118 a123 hF124 z121 z122 b119 hx120; clear hF116
    refine wpl_op (i := 2) rfl (o_new (fun g => (.pointer (some ⟨g, 0, none⟩))) [(.int .u8 0), (.int .u8 0), (.int .u8 0), (.int .u8 0)] 44 hF124 rfl rfl rfl rfl (by kernel_rfl) ?_)
    intro g125 w126 a131 hF132 z129 z130 b127 hx128; clear hF124
    refine wpList_nil ?_
    refine hK108 _ _ ?_
    clear hK108
    refine wp_seq_k (fun K133 hK133 => ?_)
    refine wp_region_lit ?_
    refine wpl_op (i := 0) rfl (o_new (fun g => (.slice (some ⟨g, 0, none⟩) 0 0)) [] 46 hF132 rfl rfl rfl rfl (rn_buildSlice (parts0 ) (by kernel_rfl)) ?_)
    intro g134 w135 a140 hF141 z138 z139 b136 hx137; clear hF132
    refine wpl_op (i := 1) rfl (o_val (v := (.slice (some ⟨g134, 0, none⟩) 0 0)) hF141 rfl rfl rfl rfl (rn_assign (hF141.get rfl)) ?_)
    intro a142 hF143; clear hF141
    refine wpList_nil ?_
    refine hK133 _ _ ?_
    clear hK133
    refine wp_seq_k (fun K144 hK144 => ?_)
    refine wp_region_lit ?_
    refine wpl_op (i := 0) rfl (o_val (v := (.int .u8 lf)) hF143 rfl rfl rfl rfl (rn_move (hF143.get rfl)) ?_)
    intro a145 hF146; clear hF143
    refine wpl_op (i := 1) rfl (o_val (v := (.int .i64 lf)) hF146 rfl rfl rfl rfl (rn_conv Try.underlying5 Try.underlying3 (hF146.get rfl) (IntWalk.i64_in _ (by omega))) ?_)
    intro a147 hF148; clear hF146
    refine wpl_op (i := 2) rfl (o_val (v := (.int .i64 lf)) hF148 rfl rfl rfl rfl (rn_assign (hF148.get rfl)) ?_)
    intro a149 hF150; clear hF148
    refine wpList_nil ?_
    refine hK144 _ _ ?_
    clear hK144
    refine wp_seq_k (fun K151 hK151 => ?_)
    refine wp_seq_k (fun K152 hK152 => ?_)
    refine wp_region_lit ?_
    refine wpl_op (i := 0) rfl (o_val (v := (.int .i64 0)) hF150 rfl rfl rfl rfl (rn_assign rfl) ?_)
    intro a153 hF154; clear hF150
    refine wpList_nil ?_
    refine hK152 _ _ ?_
    clear hK152
    refine wp_block ?_
    have r155 : w135.ownsRow w.heap.size 46 3 (.slice (some ⟨g134, 0, none⟩) ([] : List Ac).length 0) ([] : List Ac).length (acsCells []) := own_of_blk (n := 0) (cap := 0) (k := 3) (cur := []) b136 (Nat.le_refl _) (by omega) rfl (by omega : w.heap.size ≤ g134)
    have d156 := (hd70.pres ((((((Pres.refl w72).grownN hg85 (fun h => by simp only [Clip, Fr, Old] at h; omega)).ext hx112).ext hx120).ext hx128).ext hx137))
    have b157 : Blk w135 g43 25 [(.slice A66 (((((Dk.new 4).1).stop lf).1).sectors.length) c67), (.slice B68 (((((Dk.new 4).1).stop lf).1).pending.length) e69), (.int .i64 (((((Dk.new 4).1).stop lf).1).left)), (.bool (((((Dk.new 4).1).stop lf).1).stopped))] := ((((b84.ext hx112).ext hx120).ext hx128).ext hx137)
    have b158 : Blk w135 g109 44 [(.int .u8 0), (.int .u8 0), (.int .u8 0), (.int .u8 0)] := (((b111.ext hx120).ext hx128).ext hx137)
    have b159 : Blk w135 g117 44 [(.int .u8 0), (.int .u8 0), (.int .u8 0), (.int .u8 0)] := ((b119.ext hx128).ext hx137)
    have b160 : Blk w135 g125 44 [(.int .u8 0), (.int .u8 0), (.int .u8 0), (.int .u8 0)] := (b127.ext hx137)
    refine wp_loop (fun a' W => ∃ (k : Nat) (dd : Dk) (A : Option Addr) (c : Nat) (B : Option Addr) (e : Nat) (la : List UInt8) (fa : List UInt8) (sa : List UInt8) (wt : List Ac) (room : Int) (gw : Nat) (cw : Nat), Sl 163 [(0, (.slice C l.length f)), (1, (.int .u8 lf)), (4, (.bool false)), (22, (.bool false)), (25, (.bool (decide ((40 : Int) < ((l.length : Nat) : Int))))), (5, (.pointer (some ⟨g43, 0, none⟩))), (6, (.int .i64 ((Dk.new 4).2))), (7, (.int .i64 ((((Dk.new 4).1).stop lf).2))), (42, (.bool (decide (((((Dk.new 4).1).stop lf).2 : Int) ≠ (0 : Int))))), (8, (.pointer (some ⟨g109, 0, none⟩))), (9, (.pointer (some ⟨g117, 0, none⟩))), (10, (.pointer (some ⟨g125, 0, none⟩))), (11, (.slice (some ⟨gw, 0, none⟩) wt.length cw)), (12, (.int .i64 room)), (13, (.int .i64 (k : Nat)))] a' ∧ k ≤ l.length ∧ Hist dd la fa sa wt room ∧ wt.length ≤ k ∧ (0 ≤ room ∧ room ≤ 255) ∧ (gw ≠ g43 ∧ gw ≠ g109 ∧ gw ≠ g117 ∧ gw ≠ g125) ∧ Ext w W ∧ Blk W g43 25 [(.slice A dd.sectors.length c), (.slice B dd.pending.length e), (.int .i64 dd.left), (.bool dd.stopped)] ∧ Blk W g109 44 (byteVals la) ∧ Blk W g117 44 (byteVals fa) ∧ Blk W g125 44 (byteVals sa) ∧ W.ownsRow w.heap.size 46 3 (.slice (some ⟨gw, 0, none⟩) wt.length cw) wt.length (acsCells wt) ∧ RDk (Clip (fun b => b ≠ g43 ∧ b ≠ g109 ∧ b ≠ g117 ∧ b ≠ g125 ∧ b ≠ gw) W) W (.agg #[(.slice A dd.sectors.length c), (.slice B dd.pending.length e), (.int .i64 dd.left), (.bool dd.stopped)]) dd) (fun a' _ => l.length - (intOf (a'.eval (.tmp 13))).toNat) ⟨0, (((Dk.new 4).1).stop lf).1, A66, c67, B68, e69, [0, 0, 0, 0], [0, 0, 0, 0], [0, 0, 0, 0], [], lf, g134, 0, (((((((((((((((hF154.nil.cons (q_get hF154 (t := 13) rfl (by first | rfl | (congr 1; omega) | simp))).cons (q_get hF154 (t := 12) rfl (by first | rfl | (congr 1; omega) | simp))).cons (q_get hF154 (t := 11) rfl (by first | rfl | (congr 1; omega) | simp))).cons (q_get hF154 (t := 10) rfl rfl)).cons (q_get hF154 (t := 9) rfl rfl)).cons (q_get hF154 (t := 8) rfl rfl)).cons (q_get hF154 (t := 42) rfl rfl)).cons (q_get hF154 (t := 7) rfl rfl)).cons (q_get hF154 (t := 6) rfl rfl)).cons (q_get hF154 (t := 5) rfl rfl)).cons (q_get hF154 (t := 25) rfl rfl)).cons (q_get hF154 (t := 22) rfl rfl)).cons (q_get hF154 (t := 4) rfl rfl)).cons (q_get hF154 (t := 1) rfl rfl)).cons (q_get hF154 (t := 0) rfl rfl)), (by omega), hin.1, (Nat.zero_le _), hlf, (by omega), (((((((((((Ext.refl w).trans hx7).trans hx33).trans hx46).grownN hg53 (by omega)).trans hx73).grownN hg85 (by omega)).trans hx112).trans hx120).trans hx128).trans hx137), b157, b158, b159, b160, r155, (RDk.sub (S := (Clip (Fr (Clip (Fr (fun _ => False) w6) w32) w51) w72)) d156 (fun b hb => by simp only [Clip, Fr, Old] at hb ⊢; omega))⟩ ?_
    clear hF154
    rintro a161 w162 ⟨k, dd, A, c, B, e, la, fa, sa, wt, room, gw, cw, hF163, hp165, hp166, hp167, hp168, hp169, hx164, b170, b171, b172, b173, r174, hf175⟩
    have hL176 := hF163
    have z177 := hx164.size
    have z178 := b170.lt
    have z179 := b171.lt
    have z180 := b172.lt
    have z181 := b173.lt
    have z182 := own_lt r174
    refine wp_seq_k (fun K183 hK183 => ?_)
    refine wp_seq_k (fun K184 hK184 => ?_)
    refine wp_region_lit ?_
    refine wpl_op (i := 0) rfl (o_val (v := (.int .i64 (k : Nat))) hF163 rfl rfl rfl rfl (rn_move (hF163.get rfl)) ?_)
    intro a185 hF186; clear hF163
    refine wpl_op (i := 1) rfl (o_val (v := (.slice C l.length f)) hF186 rfl rfl rfl rfl (rn_move (hF186.get rfl)) ?_)
    intro a187 hF188; clear hF186
    refine wpl_op (i := 2) rfl (o_val (v := (.int .i64 (l.length : Nat))) hF188 rfl rfl rfl rfl (rn_len_slice Try.underlying43 (hF188.get rfl)) ?_)
    intro a189 hF190; clear hF188
    refine wpl_op (i := 3) rfl (o_val (v := (.bool (decide (((k : Nat) : Int) < ((l.length : Nat) : Int))))) hF190 rfl rfl rfl rfl (rn_lss (hF190.get rfl) (hF190.get rfl)) ?_)
    intro a191 hF192; clear hF190
    refine wpList_nil ?_
    refine hK184 _ _ ?_
    clear hK184
    by_cases hc193 : ((k : Nat) : Int) < ((l.length : Nat) : Int)
    · skip
      refine wp_cond_true (c_true hF192 rfl (decide_eq_true hc193)) ?_
      refine wp_skip ?_
      refine hK183 _ _ ?_
      clear hK183
      refine wp_seq_k (fun K194 hK194 => ?_)
      refine wp_block ?_
      refine wp_seq_k (fun K195 hK195 => ?_)
      refine wp_region_lit ?_
      refine wpl_op (i := 0) rfl (o_val (v := (.slice C l.length f)) hF192 rfl rfl rfl rfl (rn_move (hF192.get rfl)) ?_)
      intro a196 hF197; clear hF192
      refine wpl_op (i := 1) rfl (o_val (v := (.int .i64 (k : Nat))) hF197 rfl rfl rfl rfl (rn_move (hF197.get rfl)) ?_)
      intro a198 hF199; clear hF197
      obtain ⟨x200, hi201, hm202⟩ := get_of_lt l k (by omega)
      have z203 := x200.at_.toNat_lt; have z204 := x200.byte.toNat_lt
      obtain ⟨b205, o206, hA207, hl208, hc209, hc210, hc211⟩ := RAcs.get ha hi201
      refine wpl_op (i := 2) rfl (o_val (v := (.pointer (some ⟨b205, o206 + k * 3, none⟩))) hF199 rfl rfl rfl rfl (rn_index Try.underlying43 (by kernel_rfl : (Try.prog.info? 46).map (·.size) = some 3) ((hF199.get rfl).trans (by rw [hA207])) (hF199.get rfl) (by omega : (0 : Int) ≤ (k : Nat)) (by omega : ((k : Nat) : Int) < ((l.length : Nat) : Int))) ?_)
      intro a212 hF213; clear hF199
      refine wpl_op (i := 3) rfl (o_val (v := (.agg #[(.bool x200.sync), (.int .u8 (x200.at_.toNat : Nat)), (.int .u8 (x200.byte.toNat : Nat))])) hF213 rfl rfl rfl rfl (rn_load3 (hF213.get rfl) Try.underlying46 rfl (by kernel_rfl : (Try.prog.info? 46).map (·.size) = some 3) (Ext.keep ((Ext.refl w).trans hx164) hc209) (Ext.keep ((Ext.refl w).trans hx164) hc210) (Ext.keep ((Ext.refl w).trans hx164) hc211)) ?_)
      intro a214 hF215; clear hF213
      refine wpl_op (i := 4) rfl (o_new (fun g => (.pointer (some ⟨g, 0, none⟩))) [(.bool false), (.int .u8 0), (.int .u8 0)] 46 hF215 rfl rfl rfl rfl (by kernel_rfl) ?_)
      intro g216 w217 a222 hF223 z220 z221 b218 hx219; clear hF215
      refine wpl_op (i := 5) rfl (o_store (cells := [(.bool x200.sync), (.int .u8 (x200.at_.toNat : Nat)), (.int .u8 (x200.byte.toNat : Nat))]) hF223 rfl rfl rfl rfl (hF223.get rfl) (hF223.get rfl) b218 (by kernel_rfl : (Try.prog.info? 46).map (·.size) = some 3) rfl (by simp [Value.oneCell']) ?_)
      intro w224 b225 hg226; have z227 := hg226.size
      refine wpList_nil ?_
      refine hK195 _ _ ?_
      clear hK195
      have hF228 := (((((((((((((((((hF223.nil.cons (hF223.get (t := 14) (v := (.pointer (some ⟨g216, 0, none⟩))) rfl)).cons (hF223.get (t := 49) (v := (.bool (decide (((k : Nat) : Int) < ((l.length : Nat) : Int))))) rfl)).cons (hF223.get (t := 13) (v := (.int .i64 (k : Nat))) rfl)).cons (hF223.get (t := 12) (v := (.int .i64 room)) rfl)).cons (hF223.get (t := 11) (v := (.slice (some ⟨gw, 0, none⟩) wt.length cw)) rfl)).cons (hF223.get (t := 10) (v := (.pointer (some ⟨g125, 0, none⟩))) rfl)).cons (hF223.get (t := 9) (v := (.pointer (some ⟨g117, 0, none⟩))) rfl)).cons (hF223.get (t := 8) (v := (.pointer (some ⟨g109, 0, none⟩))) rfl)).cons (hF223.get (t := 42) (v := (.bool (decide (((((Dk.new 4).1).stop lf).2 : Int) ≠ (0 : Int))))) rfl)).cons (hF223.get (t := 7) (v := (.int .i64 ((((Dk.new 4).1).stop lf).2))) rfl)).cons (hF223.get (t := 6) (v := (.int .i64 ((Dk.new 4).2))) rfl)).cons (hF223.get (t := 5) (v := (.pointer (some ⟨g43, 0, none⟩))) rfl)).cons (hF223.get (t := 25) (v := (.bool (decide ((40 : Int) < ((l.length : Nat) : Int))))) rfl)).cons (hF223.get (t := 22) (v := (.bool false)) rfl)).cons (hF223.get (t := 4) (v := (.bool false)) rfl)).cons (hF223.get (t := 1) (v := (.int .u8 lf)) rfl)).cons (hF223.get (t := 0) (v := (.slice C l.length f)) rfl))
      clear hF223
      refine wp_seq_k (fun K229 hK229 => ?_)
      refine wp_seq_k (fun K230 hK230 => ?_)
      refine wp_region_lit ?_
      refine wpl_op (i := 0) rfl (o_val (v := (.pointer (some ⟨g216, 0, none⟩))) hF228 rfl rfl rfl rfl (rn_field Try.underlying46 rfl (by kernel_rfl) (hF228.get rfl) rfl) ?_)
      intro a231 hF232; clear hF228
      refine wpl_op (i := 1) rfl (o_val (v := (.bool x200.sync)) hF232 rfl rfl rfl rfl (rn_load (isAgg_no Try.underlying4 rfl) (hF232.get rfl) (b225.rule.1 0)) ?_)
      intro a233 hF234; clear hF232
      refine wpl_op (i := 2) rfl (o_val (v := (.bool (!x200.sync))) hF234 rfl rfl rfl rfl (rn_not' (hF234.get rfl) rfl) ?_)
      intro a235 hF236; clear hF234
      refine wpList_nil ?_
      refine hK230 _ _ ?_
      clear hK230
      rcases Bool.eq_false_or_eq_true x200.sync with hc237 | hc237
      · skip
        refine wp_cond_false (c_false hF236 rfl (not_t hc237)) ?_
        refine wp_seq_k (fun K238 hK238 => ?_)
        refine wp_region_lit ?_
        have b239 : Blk w224 g43 25 [(.slice A dd.sectors.length c), (.slice B dd.pending.length e), (.int .i64 dd.left), (.bool dd.stopped)] := ((b170.ext hx219).grownN hg226 (by omega))
        refine wpl_op (i := 0) rfl (o_val (v := (.agg #[(.slice A dd.sectors.length c), (.slice B dd.pending.length e), (.int .i64 dd.left), (.bool dd.stopped)])) hF236 rfl rfl rfl rfl (rn_loadBlk (hF236.get rfl) b239 Try.underlying25 rfl (by kernel_rfl : (Try.prog.info? 25).map (·.size) = some 4)) ?_)
        intro a240 hF241; clear hF236
        have d242 := (hf175.pres (((Pres.refl w162).ext hx219).grownN hg226 (fun h => by simp only [Clip, Fr, Old] at h; omega)))
        refine wpl_op (i := 1) rfl (o_call hF241 rfl rfl rfl rfl (rn_call (args1 (hF241.get rfl)) rfl (by kernel_rfl)) (sync_any (S := (Clip (fun b => b ≠ g43 ∧ b ≠ g109 ∧ b ≠ g117 ∧ b ≠ g125 ∧ b ≠ gw) w162)) _ dd _ d242) ?_)
        rintro _ w249 ⟨v248, rfl, hd247, hx250⟩
        obtain ⟨A243, c244, B245, e246, rfl, -, -⟩ := hd247.form
        have hd247 := hd247.clip
        refine ⟨_, rfl, ?_⟩; intro a251 hF252; clear hF241; have z253 := hx250.size
        refine wpl_op (i := 2) rfl (o_val (v := (.tuple #[(.agg #[(.slice A243 dd.sync.1.sectors.length c244), (.slice B245 dd.sync.1.pending.length e246), (.int .i64 dd.sync.1.left), (.bool dd.sync.1.stopped)]), (.int .i64 dd.sync.2)])) hF252 rfl rfl rfl rfl (rn_move (hF252.get rfl)) ?_)
        intro a254 hF255; clear hF252
        refine wpl_op (i := 3) rfl (o_val (v := (.agg #[(.slice A243 dd.sync.1.sectors.length c244), (.slice B245 dd.sync.1.pending.length e246), (.int .i64 dd.sync.1.left), (.bool dd.sync.1.stopped)])) hF255 rfl rfl rfl rfl (rn_extract (hF255.get rfl) rfl) ?_)
        intro a256 hF257; clear hF255
        refine wpl_op (i := 4) rfl (o_val (v := (.int .i64 dd.sync.2)) hF257 rfl rfl rfl rfl (rn_extract (hF257.get rfl) rfl) ?_)
        intro a258 hF259; clear hF257
        refine wpl_op (i := 5) rfl (o_new (fun g => (.pointer (some ⟨g, 0, none⟩))) [(.slice none 0 0), (.slice none 0 0), (.int .i64 0), (.bool false)] 25 hF259 rfl rfl rfl rfl (by kernel_rfl) ?_)
        intro g260 w261 a266 hF267 z264 z265 b262 hx263; clear hF259
        refine wpl_op (i := 6) rfl (o_store (cells := [(.slice A243 dd.sync.1.sectors.length c244), (.slice B245 dd.sync.1.pending.length e246), (.int .i64 dd.sync.1.left), (.bool dd.sync.1.stopped)]) hF267 rfl rfl rfl rfl (hF267.get rfl) (hF267.get rfl) b262 (by kernel_rfl : (Try.prog.info? 25).map (·.size) = some 4) rfl (by simp [Value.oneCell']) ?_)
        intro w268 b269 hg270; have z271 := hg270.size
        refine wpl_op (i := 7) rfl (o_val (v := (.int .i64 dd.sync.2)) hF267 rfl rfl rfl rfl (rn_assign (hF267.get rfl)) ?_)
        intro a272 hF273; clear hF267
        refine wpList_nil ?_
        refine hK238 _ _ ?_
        clear hK238
        have hF274 := ((((((((((((((((((((hF273.nil.cons (hF273.get (t := 18) (v := (.int .i64 dd.sync.2)) rfl)).cons (hF273.get (t := 17) (v := (.pointer (some ⟨g260, 0, none⟩))) rfl)).cons (hF273.get (t := 58) (v := (.bool (!x200.sync))) rfl)).cons (hF273.get (t := 14) (v := (.pointer (some ⟨g216, 0, none⟩))) rfl)).cons (hF273.get (t := 49) (v := (.bool (decide (((k : Nat) : Int) < ((l.length : Nat) : Int))))) rfl)).cons (hF273.get (t := 13) (v := (.int .i64 (k : Nat))) rfl)).cons (hF273.get (t := 12) (v := (.int .i64 room)) rfl)).cons (hF273.get (t := 11) (v := (.slice (some ⟨gw, 0, none⟩) wt.length cw)) rfl)).cons (hF273.get (t := 10) (v := (.pointer (some ⟨g125, 0, none⟩))) rfl)).cons (hF273.get (t := 9) (v := (.pointer (some ⟨g117, 0, none⟩))) rfl)).cons (hF273.get (t := 8) (v := (.pointer (some ⟨g109, 0, none⟩))) rfl)).cons (hF273.get (t := 42) (v := (.bool (decide (((((Dk.new 4).1).stop lf).2 : Int) ≠ (0 : Int))))) rfl)).cons (hF273.get (t := 7) (v := (.int .i64 ((((Dk.new 4).1).stop lf).2))) rfl)).cons (hF273.get (t := 6) (v := (.int .i64 ((Dk.new 4).2))) rfl)).cons (hF273.get (t := 5) (v := (.pointer (some ⟨g43, 0, none⟩))) rfl)).cons (hF273.get (t := 25) (v := (.bool (decide ((40 : Int) < ((l.length : Nat) : Int))))) rfl)).cons (hF273.get (t := 22) (v := (.bool false)) rfl)).cons (hF273.get (t := 4) (v := (.bool false)) rfl)).cons (hF273.get (t := 1) (v := (.int .u8 lf)) rfl)).cons (hF273.get (t := 0) (v := (.slice C l.length f)) rfl))
        clear hF273
        refine wp_seq_k (fun K275 hK275 => ?_)
        refine wp_region_lit ?_
        refine wpl_op (i := 0) rfl (o_val (v := (.slice (some ⟨gw, 0, none⟩) wt.length cw)) hF274 rfl rfl rfl rfl (rn_move (hF274.get rfl)) ?_)
        intro a276 hF277; clear hF274
        refine wpl_op (i := 1) rfl (o_val (v := (.int .i64 (wt.length : Nat))) hF277 rfl rfl rfl rfl (rn_len_slice Try.underlying43 (hF277.get rfl)) ?_)
        intro a278 hF279; clear hF277
        refine wpl_op (i := 2) rfl (o_val (v := (.int .i64 room)) hF279 rfl rfl rfl rfl (rn_move (hF279.get rfl)) ?_)
        intro a280 hF281; clear hF279
        refine wpl_op (i := 3) rfl (o_val (v := (.bool (decide ((room : Int) < ((wt.length : Nat) : Int))))) hF281 rfl rfl rfl rfl (rn_gtr (hF281.get rfl) (hF281.get rfl)) ?_)
        intro a282 hF283; clear hF281
        refine wpl_op (i := 4) rfl (o_val (v := (.bool (decide ((room : Int) < ((wt.length : Nat) : Int))))) hF283 rfl rfl rfl rfl (rn_assign (hF283.get rfl)) ?_)
        intro a284 hF285; clear hF283
        refine wpList_nil ?_
        refine hK275 _ _ ?_
        clear hK275
        have hF286 := (((((((((((((((((((((hF285.nil.cons (hF285.get (t := 19) (v := (.bool (decide ((room : Int) < ((wt.length : Nat) : Int))))) rfl)).cons (hF285.get (t := 18) (v := (.int .i64 dd.sync.2)) rfl)).cons (hF285.get (t := 17) (v := (.pointer (some ⟨g260, 0, none⟩))) rfl)).cons (hF285.get (t := 58) (v := (.bool (!x200.sync))) rfl)).cons (hF285.get (t := 14) (v := (.pointer (some ⟨g216, 0, none⟩))) rfl)).cons (hF285.get (t := 49) (v := (.bool (decide (((k : Nat) : Int) < ((l.length : Nat) : Int))))) rfl)).cons (hF285.get (t := 13) (v := (.int .i64 (k : Nat))) rfl)).cons (hF285.get (t := 12) (v := (.int .i64 room)) rfl)).cons (hF285.get (t := 11) (v := (.slice (some ⟨gw, 0, none⟩) wt.length cw)) rfl)).cons (hF285.get (t := 10) (v := (.pointer (some ⟨g125, 0, none⟩))) rfl)).cons (hF285.get (t := 9) (v := (.pointer (some ⟨g117, 0, none⟩))) rfl)).cons (hF285.get (t := 8) (v := (.pointer (some ⟨g109, 0, none⟩))) rfl)).cons (hF285.get (t := 42) (v := (.bool (decide (((((Dk.new 4).1).stop lf).2 : Int) ≠ (0 : Int))))) rfl)).cons (hF285.get (t := 7) (v := (.int .i64 ((((Dk.new 4).1).stop lf).2))) rfl)).cons (hF285.get (t := 6) (v := (.int .i64 ((Dk.new 4).2))) rfl)).cons (hF285.get (t := 5) (v := (.pointer (some ⟨g43, 0, none⟩))) rfl)).cons (hF285.get (t := 25) (v := (.bool (decide ((40 : Int) < ((l.length : Nat) : Int))))) rfl)).cons (hF285.get (t := 22) (v := (.bool false)) rfl)).cons (hF285.get (t := 4) (v := (.bool false)) rfl)).cons (hF285.get (t := 1) (v := (.int .u8 lf)) rfl)).cons (hF285.get (t := 0) (v := (.slice C l.length f)) rfl))
        clear hF285
        refine wp_seq_k (fun K287 hK287 => ?_)
        refine wp_seq_k (fun K288 hK288 => ?_)
        refine wp_region_lit ?_
        refine wpl_op (i := 0) rfl (o_val (v := (.int .i64 0)) hF286 rfl rfl rfl rfl (rn_assign rfl) ?_)
        intro a289 hF290; clear hF286
        refine wpList_nil ?_
        refine hK288 _ _ ?_
        clear hK288
        refine wp_block ?_
        have d291 := (hd247.pres (((Pres.refl w249).ext hx263).grownN hg270 (fun h => by simp only [Clip, Fr, Old] at h; omega)))
        have b292 : Blk w268 g43 25 [(.slice A dd.sectors.length c), (.slice B dd.pending.length e), (.int .i64 dd.left), (.bool dd.stopped)] := (((b239.ext hx250).ext hx263).grownN hg270 (by omega))
        have b293 : Blk w268 g109 44 (byteVals la) := (((((b171.ext hx219).grownN hg226 (by omega)).ext hx250).ext hx263).grownN hg270 (by omega))
        have b294 : Blk w268 g117 44 (byteVals fa) := (((((b172.ext hx219).grownN hg226 (by omega)).ext hx250).ext hx263).grownN hg270 (by omega))
        have b295 : Blk w268 g125 44 (byteVals sa) := (((((b173.ext hx219).grownN hg226 (by omega)).ext hx250).ext hx263).grownN hg270 (by omega))
        have b296 : Blk w268 g216 46 [(.bool x200.sync), (.int .u8 (x200.at_.toNat : Nat)), (.int .u8 (x200.byte.toNat : Nat))] := (((b225.ext hx250).ext hx263).grownN hg270 (by omega))
        have r297 := (own_grownE (own_ext (own_ext (own_grownE (own_ext r174 hx219) hg226 (by omega)) hx250) hx263) hg270 (by omega))
        refine wp_loop (fun a' W => ∃ (j : Nat) (fa1 : List UInt8) (sa1 : List UInt8), Sl 163 [(0, (.slice C l.length f)), (1, (.int .u8 lf)), (4, (.bool false)), (22, (.bool false)), (25, (.bool (decide ((40 : Int) < ((l.length : Nat) : Int))))), (5, (.pointer (some ⟨g43, 0, none⟩))), (6, (.int .i64 ((Dk.new 4).2))), (7, (.int .i64 ((((Dk.new 4).1).stop lf).2))), (42, (.bool (decide (((((Dk.new 4).1).stop lf).2 : Int) ≠ (0 : Int))))), (8, (.pointer (some ⟨g109, 0, none⟩))), (9, (.pointer (some ⟨g117, 0, none⟩))), (10, (.pointer (some ⟨g125, 0, none⟩))), (11, (.slice (some ⟨gw, 0, none⟩) wt.length cw)), (12, (.int .i64 room)), (13, (.int .i64 (k : Nat))), (49, (.bool (decide (((k : Nat) : Int) < ((l.length : Nat) : Int))))), (14, (.pointer (some ⟨g216, 0, none⟩))), (58, (.bool (!x200.sync))), (17, (.pointer (some ⟨g260, 0, none⟩))), (18, (.int .i64 dd.sync.2)), (19, (.bool (decide ((room : Int) < ((wt.length : Nat) : Int))))), (20, (.int .i64 (j : Nat)))] a' ∧ j ≤ wt.length ∧ (j : Int) ≤ room + 1 ∧ fa1 = setA fa (wt.take j) ∧ sa1 = setA sa (wt.take (min j room.toNat)) ∧ Ext w W ∧ Blk W g43 25 [(.slice A dd.sectors.length c), (.slice B dd.pending.length e), (.int .i64 dd.left), (.bool dd.stopped)] ∧ Blk W g109 44 (byteVals la) ∧ Blk W g117 44 (byteVals fa1) ∧ Blk W g125 44 (byteVals sa1) ∧ Blk W g216 46 [(.bool x200.sync), (.int .u8 (x200.at_.toNat : Nat)), (.int .u8 (x200.byte.toNat : Nat))] ∧ Blk W g260 25 [(.slice A243 dd.sync.1.sectors.length c244), (.slice B245 dd.sync.1.pending.length e246), (.int .i64 dd.sync.1.left), (.bool dd.sync.1.stopped)] ∧ W.ownsRow w.heap.size 46 3 (.slice (some ⟨gw, 0, none⟩) wt.length cw) wt.length (acsCells wt) ∧ RDk (Clip (fun b => b ≠ g43 ∧ b ≠ g109 ∧ b ≠ g117 ∧ b ≠ g125 ∧ b ≠ gw) W) W (.agg #[(.slice A243 dd.sync.1.sectors.length c244), (.slice B245 dd.sync.1.pending.length e246), (.int .i64 dd.sync.1.left), (.bool dd.sync.1.stopped)]) dd.sync.1) (fun a' _ => wt.length - (intOf (a'.eval (.tmp 20))).toNat) ⟨0, fa, sa, ((((((((((((((((((((((hF290.nil.cons (q_get hF290 (t := 20) rfl (by first | rfl | (congr 1; omega) | simp))).cons (q_get hF290 (t := 19) rfl rfl)).cons (q_get hF290 (t := 18) rfl rfl)).cons (q_get hF290 (t := 17) rfl rfl)).cons (q_get hF290 (t := 58) rfl rfl)).cons (q_get hF290 (t := 14) rfl rfl)).cons (q_get hF290 (t := 49) rfl rfl)).cons (q_get hF290 (t := 13) rfl rfl)).cons (q_get hF290 (t := 12) rfl rfl)).cons (q_get hF290 (t := 11) rfl rfl)).cons (q_get hF290 (t := 10) rfl rfl)).cons (q_get hF290 (t := 9) rfl rfl)).cons (q_get hF290 (t := 8) rfl rfl)).cons (q_get hF290 (t := 42) rfl rfl)).cons (q_get hF290 (t := 7) rfl rfl)).cons (q_get hF290 (t := 6) rfl rfl)).cons (q_get hF290 (t := 5) rfl rfl)).cons (q_get hF290 (t := 25) rfl rfl)).cons (q_get hF290 (t := 22) rfl rfl)).cons (q_get hF290 (t := 4) rfl rfl)).cons (q_get hF290 (t := 1) rfl rfl)).cons (q_get hF290 (t := 0) rfl rfl)), (Nat.zero_le _), (by omega), (by simp [setA]), (by simp [setA]), (((((((Ext.refl w).trans hx164).trans hx219).grownN hg226 (by omega)).trans hx250).trans hx263).grownN hg270 (by omega)), b292, b293, b294, b295, b296, b269, r297, (RDk.sub (S := (Clip (Fr (Clip (fun b => b ≠ g43 ∧ b ≠ g109 ∧ b ≠ g117 ∧ b ≠ g125 ∧ b ≠ gw) w162) w224) w249)) d291 (fun b hb => by simp only [Clip, Fr, Old] at hb ⊢; omega))⟩ ?_
        clear hF290
        rintro a298 w299 ⟨j, fa1, sa1, hF300, hp302, hp303, hp304, hp305, hx301, b306, b307, b308, b309, b310, b311, r312, hf313⟩
        have hL314 := hF300
        have z315 := hx301.size
        have z316 := b306.lt
        have z317 := b307.lt
        have z318 := b308.lt
        have z319 := b309.lt
        have z320 := b310.lt
        have z321 := b311.lt
        have z322 := own_lt r312
        refine wp_seq_k (fun K323 hK323 => ?_)
        refine wp_seq_k (fun K324 hK324 => ?_)
        refine wp_region_lit ?_
        refine wpl_op (i := 0) rfl (o_val (v := (.int .i64 (j : Nat))) hF300 rfl rfl rfl rfl (rn_move (hF300.get rfl)) ?_)
        intro a325 hF326; clear hF300
        refine wpl_op (i := 1) rfl (o_val (v := (.slice (some ⟨gw, 0, none⟩) wt.length cw)) hF326 rfl rfl rfl rfl (rn_move (hF326.get rfl)) ?_)
        intro a327 hF328; clear hF326
        refine wpl_op (i := 2) rfl (o_val (v := (.int .i64 (wt.length : Nat))) hF328 rfl rfl rfl rfl (rn_len_slice Try.underlying43 (hF328.get rfl)) ?_)
        intro a329 hF330; clear hF328
        refine wpl_op (i := 3) rfl (o_val (v := (.bool (decide (((j : Nat) : Int) < ((wt.length : Nat) : Int))))) hF330 rfl rfl rfl rfl (rn_lss (hF330.get rfl) (hF330.get rfl)) ?_)
        intro a331 hF332; clear hF330
        refine wpl_op (i := 4) rfl (o_val (v := (.bool (decide (((j : Nat) : Int) < ((wt.length : Nat) : Int))))) hF332 rfl rfl rfl rfl (rn_move (hF332.get rfl)) ?_)
        intro a333 hF334; clear hF332
        by_cases hc335 : ((j : Nat) : Int) < ((wt.length : Nat) : Int)
        · skip
          refine wpl_op (i := 5) rfl (o_val (v := (.int .i64 (j : Nat))) hF334 rfl (wanted_guard rfl rfl rfl hF334 rfl (decide_eq_true hc335) rfl) rfl rfl (rn_move (hF334.get rfl)) ?_)
          intro a336 hF337; clear hF334
          refine wpl_op (i := 6) rfl (o_val (v := (.int .i64 room)) hF337 rfl (wanted_guard rfl rfl rfl hF337 rfl (decide_eq_true hc335) rfl) rfl rfl (rn_move (hF337.get rfl)) ?_)
          intro a338 hF339; clear hF337
          refine wpl_op (i := 7) rfl (o_val (v := (.bool (decide (((j : Nat) : Int) ≤ (room : Int))))) hF339 rfl (wanted_guard rfl rfl rfl hF339 rfl (decide_eq_true hc335) rfl) rfl rfl (rn_leq (hF339.get rfl) (hF339.get rfl)) ?_)
          intro a340 hF341; clear hF339
          refine wpl_op (i := 8) rfl (o_val (v := (.bool (decide (((j : Nat) : Int) ≤ (room : Int))))) hF341 rfl rfl rfl rfl (rn_pickT (c_true hF341 rfl (decide_eq_true hc335)) (hF341.get rfl)) ?_)
          intro a342 hF343; clear hF341
          refine wpList_nil ?_
          refine hK324 _ _ ?_
          clear hK324
          have hF344 := (((((((((((((((((((((((hF343.nil.cons (hF343.get (t := 101) (v := (.bool (decide (((j : Nat) : Int) ≤ (room : Int))))) rfl)).cons (hF343.get (t := 20) (v := (.int .i64 (j : Nat))) rfl)).cons (hF343.get (t := 19) (v := (.bool (decide ((room : Int) < ((wt.length : Nat) : Int))))) rfl)).cons (hF343.get (t := 18) (v := (.int .i64 dd.sync.2)) rfl)).cons (hF343.get (t := 17) (v := (.pointer (some ⟨g260, 0, none⟩))) rfl)).cons (hF343.get (t := 58) (v := (.bool (!x200.sync))) rfl)).cons (hF343.get (t := 14) (v := (.pointer (some ⟨g216, 0, none⟩))) rfl)).cons (hF343.get (t := 49) (v := (.bool (decide (((k : Nat) : Int) < ((l.length : Nat) : Int))))) rfl)).cons (hF343.get (t := 13) (v := (.int .i64 (k : Nat))) rfl)).cons (hF343.get (t := 12) (v := (.int .i64 room)) rfl)).cons (hF343.get (t := 11) (v := (.slice (some ⟨gw, 0, none⟩) wt.length cw)) rfl)).cons (hF343.get (t := 10) (v := (.pointer (some ⟨g125, 0, none⟩))) rfl)).cons (hF343.get (t := 9) (v := (.pointer (some ⟨g117, 0, none⟩))) rfl)).cons (hF343.get (t := 8) (v := (.pointer (some ⟨g109, 0, none⟩))) rfl)).cons (hF343.get (t := 42) (v := (.bool (decide (((((Dk.new 4).1).stop lf).2 : Int) ≠ (0 : Int))))) rfl)).cons (hF343.get (t := 7) (v := (.int .i64 ((((Dk.new 4).1).stop lf).2))) rfl)).cons (hF343.get (t := 6) (v := (.int .i64 ((Dk.new 4).2))) rfl)).cons (hF343.get (t := 5) (v := (.pointer (some ⟨g43, 0, none⟩))) rfl)).cons (hF343.get (t := 25) (v := (.bool (decide ((40 : Int) < ((l.length : Nat) : Int))))) rfl)).cons (hF343.get (t := 22) (v := (.bool false)) rfl)).cons (hF343.get (t := 4) (v := (.bool false)) rfl)).cons (hF343.get (t := 1) (v := (.int .u8 lf)) rfl)).cons (hF343.get (t := 0) (v := (.slice C l.length f)) rfl))
          clear hF343
          by_cases hc345 : ((j : Nat) : Int) ≤ (room : Int)
          · skip
            refine wp_cond_true (c_true hF344 rfl (decide_eq_true hc345)) ?_
            refine wp_skip ?_
            refine hK323 _ _ ?_
            clear hK323
            refine wp_seq_k (fun K346 hK346 => ?_)
            refine wp_block ?_
            refine wp_seq_k (fun K347 hK347 => ?_)
            have hx349 : ∃ W, w299.drew = W ∧ Ext w299 W := ⟨_, rfl, (Ext.refl _).drew⟩
            obtain ⟨w348, e350, hx349⟩ := hx349
            have z351 := hx349.size
            refine any_start (fun W => Ext w348 W ∧ Blk W g117 44 (byteVals fa1)) (fun i => i == 12) 13 #[false, false, false, false, false, false, false, false, false, false, false, false, false] rfl rfl rfl ?_
            rw [e350]; clear e350
            refine any_pure (i := 0) (v := (.slice (some ⟨gw, 0, none⟩) wt.length cw)) hF344 (by decide +kernel) (by decide +kernel) rfl rfl rfl rfl (fun _ _ _ _ h => h) rfl (fun W => (rn_move (hF344.get rfl))) ?_
            intro a352 hF353; clear hF344
            refine any_pure (i := 1) (v := (.int .i64 (j : Nat))) hF353 (by decide +kernel) (by decide +kernel) rfl rfl rfl rfl (fun _ _ _ _ h => h) rfl (fun W => (rn_move (hF353.get rfl))) ?_
            intro a354 hF355; clear hF353
            have r356 := (own_ext r312 hx349)
            obtain ⟨x357, hi358, hm359⟩ := get_of_lt wt j (by omega)
            have z360 := x357.at_.toNat_lt; have z361 := x357.byte.toNat_lt
            obtain ⟨b362, o363, hA364, hl365, hc366, hc367, hc368⟩ := RAcs.get (acs_own r356) hi358
            cases hA364
            refine any_pure (i := 2) (v := (.pointer (some ⟨gw, 0 + j * 3, none⟩))) hF355 (by decide +kernel) (by decide +kernel) rfl rfl rfl rfl (fun _ _ _ _ h => h) rfl (fun W => (rn_index Try.underlying43 (by kernel_rfl : (Try.prog.info? 46).map (·.size) = some 3) (hF355.get rfl) (hF355.get rfl) (by omega : (0 : Int) ≤ (j : Nat)) (by omega : ((j : Nat) : Int) < ((wt.length : Nat) : Int)))) ?_
            intro a369 hF370; clear hF355
            refine any_pure (i := 3) (v := (.pointer (some ⟨gw, 0 + j * 3 + 1, none⟩))) hF370 (by decide +kernel) (by decide +kernel) rfl rfl rfl rfl (fun _ _ _ _ h => h) rfl (fun W => (rn_field Try.underlying46 rfl (by kernel_rfl) (hF370.get rfl) rfl)) ?_
            intro a371 hF372; clear hF370
            have b374 : Blk w348 g117 44 (byteVals fa1) := (b308.ext hx349)
            have hS373 : Ext w348 w348 ∧ Blk w348 g117 44 (byteVals fa1) := ⟨(Ext.refl w348), b374⟩
            refine any_val (i := 4) (v := (.int .u8 (x357.at_.toNat : Nat))) hF372 (by decide +kernel) (by decide +kernel) rfl rfl rfl rfl (fun _ _ _ _ h => h) rfl hS373 (fun W hW => (rn_load (isAgg_no Try.underlying5 rfl) (hF372.get rfl) (Ext.keep ((Ext.refl w348).trans hW.1) hc367))) ?_
            intro a375 hF376; clear hF372
            refine any_pure (i := 5) (v := (.int .u8 (((x357.at_.toNat : Nat) : Int) % (4 : Int)))) hF376 (by decide +kernel) (by decide +kernel) rfl rfl rfl rfl (fun _ _ _ _ h => h) rfl (fun W => (rn_rem (hF376.get rfl) rfl (by omega : (0 : Int) ≤ (x357.at_.toNat : Nat)) (by omega : (0 : Int) < 4))) ?_
            intro a377 hF378; clear hF376
            refine any_pure (i := 6) (v := (.slice (some ⟨gw, 0, none⟩) wt.length cw)) hF378 (by decide +kernel) (by decide +kernel) rfl rfl rfl rfl (fun _ _ _ _ h => h) rfl (fun W => (rn_move (hF378.get rfl))) ?_
            intro a379 hF380; clear hF378
            refine any_pure (i := 7) (v := (.int .i64 (j : Nat))) hF380 (by decide +kernel) (by decide +kernel) rfl rfl rfl rfl (fun _ _ _ _ h => h) rfl (fun W => (rn_move (hF380.get rfl))) ?_
            intro a381 hF382; clear hF380
            refine any_pure (i := 8) (v := (.pointer (some ⟨gw, 0 + j * 3, none⟩))) hF382 (by decide +kernel) (by decide +kernel) rfl rfl rfl rfl (fun _ _ _ _ h => h) rfl (fun W => (rn_index Try.underlying43 (by kernel_rfl : (Try.prog.info? 46).map (·.size) = some 3) (hF382.get rfl) (hF382.get rfl) (by omega : (0 : Int) ≤ (j : Nat)) (by omega : ((j : Nat) : Int) < ((wt.length : Nat) : Int)))) ?_
            intro a390 hF391; clear hF382
            refine any_pure (i := 9) (v := (.pointer (some ⟨gw, 0 + j * 3 + 2, none⟩))) hF391 (by decide +kernel) (by decide +kernel) rfl rfl rfl rfl (fun _ _ _ _ h => h) rfl (fun W => (rn_field Try.underlying46 rfl (by kernel_rfl) (hF391.get rfl) rfl)) ?_
            intro a392 hF393; clear hF391
            refine any_val (i := 10) (v := (.int .u8 (x357.byte.toNat : Nat))) hF393 (by decide +kernel) (by decide +kernel) rfl rfl rfl rfl (fun _ _ _ _ h => h) rfl hS373 (fun W hW => (rn_load (isAgg_no Try.underlying5 rfl) (hF393.get rfl) (Ext.keep ((Ext.refl w348).trans hW.1) hc368))) ?_
            intro a394 hF395; clear hF393
            refine any_pure (i := 11) (v := (.pointer (some ⟨g117, 0 + ((((x357.at_.toNat : Nat) : Int) % (4 : Int)) : Int).toNat, none⟩))) hF395 (by decide +kernel) (by decide +kernel) rfl rfl rfl rfl (fun _ _ _ _ h => h) rfl (fun W => (rn_indexArr Try.underlying44 (by kernel_rfl : (Try.prog.info? 5).map (·.size) = some 1) (hF395.get rfl) (hF395.get rfl) (by omega : (0 : Int) ≤ (((x357.at_.toNat : Nat) : Int) % (4 : Int))) (by omega : ((((x357.at_.toNat : Nat) : Int) % (4 : Int)) : Int) < ((4 : Nat) : Int)))) ?_
            intro a396 hF397; clear hF395
            refine any_one (i := 12) (by decide +kernel) rfl ?_
            refine o_store1 (new := (byteVals (fa1.set (ix x357) x357.byte))) hF397 rfl rfl rfl rfl (hF397.get rfl) (hF397.get rfl) b374 (by kernel_rfl : (Try.prog.info? 5).map (·.size) = some 1) (by rw [byteVals_len ((congrArg List.length hp304).trans ((setA_len _ _).trans hp166.fa4))]; omega) rfl (byteVals_set (by unfold ix; omega)) ?_
            intro w398 b399 hg400; have z401 := hg400.size
            refine ⟨fun h => absurd h (by decide), ?_⟩
            refine any_nil (by decide +kernel) ?_
            refine hK347 _ _ ?_
            clear hK347
            have hF402 := (((((((((((((((((((((((hF397.nil.cons (hF397.get (t := 101) (v := (.bool (decide (((j : Nat) : Int) ≤ (room : Int))))) rfl)).cons (hF397.get (t := 20) (v := (.int .i64 (j : Nat))) rfl)).cons (hF397.get (t := 19) (v := (.bool (decide ((room : Int) < ((wt.length : Nat) : Int))))) rfl)).cons (hF397.get (t := 18) (v := (.int .i64 dd.sync.2)) rfl)).cons (hF397.get (t := 17) (v := (.pointer (some ⟨g260, 0, none⟩))) rfl)).cons (hF397.get (t := 58) (v := (.bool (!x200.sync))) rfl)).cons (hF397.get (t := 14) (v := (.pointer (some ⟨g216, 0, none⟩))) rfl)).cons (hF397.get (t := 49) (v := (.bool (decide (((k : Nat) : Int) < ((l.length : Nat) : Int))))) rfl)).cons (hF397.get (t := 13) (v := (.int .i64 (k : Nat))) rfl)).cons (hF397.get (t := 12) (v := (.int .i64 room)) rfl)).cons (hF397.get (t := 11) (v := (.slice (some ⟨gw, 0, none⟩) wt.length cw)) rfl)).cons (hF397.get (t := 10) (v := (.pointer (some ⟨g125, 0, none⟩))) rfl)).cons (hF397.get (t := 9) (v := (.pointer (some ⟨g117, 0, none⟩))) rfl)).cons (hF397.get (t := 8) (v := (.pointer (some ⟨g109, 0, none⟩))) rfl)).cons (hF397.get (t := 42) (v := (.bool (decide (((((Dk.new 4).1).stop lf).2 : Int) ≠ (0 : Int))))) rfl)).cons (hF397.get (t := 7) (v := (.int .i64 ((((Dk.new 4).1).stop lf).2))) rfl)).cons (hF397.get (t := 6) (v := (.int .i64 ((Dk.new 4).2))) rfl)).cons (hF397.get (t := 5) (v := (.pointer (some ⟨g43, 0, none⟩))) rfl)).cons (hF397.get (t := 25) (v := (.bool (decide ((40 : Int) < ((l.length : Nat) : Int))))) rfl)).cons (hF397.get (t := 22) (v := (.bool false)) rfl)).cons (hF397.get (t := 4) (v := (.bool false)) rfl)).cons (hF397.get (t := 1) (v := (.int .u8 lf)) rfl)).cons (hF397.get (t := 0) (v := (.slice C l.length f)) rfl))
            clear hF397
            refine wp_seq_k (fun K403 hK403 => ?_)
            refine wp_region_lit ?_
            refine wpl_op (i := 0) rfl (o_val (v := (.int .i64 (j : Nat))) hF402 rfl rfl rfl rfl (rn_move (hF402.get rfl)) ?_)
            intro a404 hF405; clear hF402
            refine wpl_op (i := 1) rfl (o_val (v := (.int .i64 room)) hF405 rfl rfl rfl rfl (rn_move (hF405.get rfl)) ?_)
            intro a406 hF407; clear hF405
            refine wpl_op (i := 2) rfl (o_val (v := (.bool (decide (((j : Nat) : Int) < (room : Int))))) hF407 rfl rfl rfl rfl (rn_lss (hF407.get rfl) (hF407.get rfl)) ?_)
            intro a408 hF409; clear hF407
            refine wpList_nil ?_
            refine hK403 _ _ ?_
            clear hK403
            by_cases hc410 : ((j : Nat) : Int) < (room : Int)
            · skip
              refine wp_cond_true (c_true hF409 rfl (decide_eq_true hc410)) ?_
              have hx412 : ∃ W, w398.drew = W ∧ Ext w398 W := ⟨_, rfl, (Ext.refl _).drew⟩
              obtain ⟨w411, e413, hx412⟩ := hx412
              have z414 := hx412.size
              refine any_start (fun W => Ext w411 W ∧ Blk W g125 44 (byteVals sa1)) (fun i => i == 12) 13 #[false, false, false, false, false, false, false, false, false, false, false, false, false] rfl rfl rfl ?_
              rw [e413]; clear e413
              refine any_pure (i := 0) (v := (.slice (some ⟨gw, 0, none⟩) wt.length cw)) hF409 (by decide +kernel) (by decide +kernel) rfl rfl rfl rfl (fun _ _ _ _ h => h) rfl (fun W => (rn_move (hF409.get rfl))) ?_
              intro a415 hF416; clear hF409
              refine any_pure (i := 1) (v := (.int .i64 (j : Nat))) hF416 (by decide +kernel) (by decide +kernel) rfl rfl rfl rfl (fun _ _ _ _ h => h) rfl (fun W => (rn_move (hF416.get rfl))) ?_
              intro a417 hF418; clear hF416
              have r419 := (own_ext (own_grownE r356 hg400 (by omega)) hx412)
              obtain ⟨b420, o421, hA422, hl423, hc424, hc425, hc426⟩ := RAcs.get (acs_own r419) hi358
              cases hA422
              refine any_pure (i := 2) (v := (.pointer (some ⟨gw, 0 + j * 3, none⟩))) hF418 (by decide +kernel) (by decide +kernel) rfl rfl rfl rfl (fun _ _ _ _ h => h) rfl (fun W => (rn_index Try.underlying43 (by kernel_rfl : (Try.prog.info? 46).map (·.size) = some 3) (hF418.get rfl) (hF418.get rfl) (by omega : (0 : Int) ≤ (j : Nat)) (by omega : ((j : Nat) : Int) < ((wt.length : Nat) : Int)))) ?_
              intro a427 hF428; clear hF418
              refine any_pure (i := 3) (v := (.pointer (some ⟨gw, 0 + j * 3 + 1, none⟩))) hF428 (by decide +kernel) (by decide +kernel) rfl rfl rfl rfl (fun _ _ _ _ h => h) rfl (fun W => (rn_field Try.underlying46 rfl (by kernel_rfl) (hF428.get rfl) rfl)) ?_
              intro a429 hF430; clear hF428
              have b432 : Blk w411 g125 44 (byteVals sa1) := (((b309.ext hx349).grownN hg400 (by omega)).ext hx412)
              have hS431 : Ext w411 w411 ∧ Blk w411 g125 44 (byteVals sa1) := ⟨(Ext.refl w411), b432⟩
              refine any_val (i := 4) (v := (.int .u8 (x357.at_.toNat : Nat))) hF430 (by decide +kernel) (by decide +kernel) rfl rfl rfl rfl (fun _ _ _ _ h => h) rfl hS431 (fun W hW => (rn_load (isAgg_no Try.underlying5 rfl) (hF430.get rfl) (Ext.keep ((Ext.refl w411).trans hW.1) hc425))) ?_
              intro a433 hF434; clear hF430
              refine any_pure (i := 5) (v := (.int .u8 (((x357.at_.toNat : Nat) : Int) % (4 : Int)))) hF434 (by decide +kernel) (by decide +kernel) rfl rfl rfl rfl (fun _ _ _ _ h => h) rfl (fun W => (rn_rem (hF434.get rfl) rfl (by omega : (0 : Int) ≤ (x357.at_.toNat : Nat)) (by omega : (0 : Int) < 4))) ?_
              intro a435 hF436; clear hF434
              refine any_pure (i := 6) (v := (.slice (some ⟨gw, 0, none⟩) wt.length cw)) hF436 (by decide +kernel) (by decide +kernel) rfl rfl rfl rfl (fun _ _ _ _ h => h) rfl (fun W => (rn_move (hF436.get rfl))) ?_
              intro a437 hF438; clear hF436
              refine any_pure (i := 7) (v := (.int .i64 (j : Nat))) hF438 (by decide +kernel) (by decide +kernel) rfl rfl rfl rfl (fun _ _ _ _ h => h) rfl (fun W => (rn_move (hF438.get rfl))) ?_
              intro a439 hF440; clear hF438
              refine any_pure (i := 8) (v := (.pointer (some ⟨gw, 0 + j * 3, none⟩))) hF440 (by decide +kernel) (by decide +kernel) rfl rfl rfl rfl (fun _ _ _ _ h => h) rfl (fun W => (rn_index Try.underlying43 (by kernel_rfl : (Try.prog.info? 46).map (·.size) = some 3) (hF440.get rfl) (hF440.get rfl) (by omega : (0 : Int) ≤ (j : Nat)) (by omega : ((j : Nat) : Int) < ((wt.length : Nat) : Int)))) ?_
              intro a448 hF449; clear hF440
              refine any_pure (i := 9) (v := (.pointer (some ⟨gw, 0 + j * 3 + 2, none⟩))) hF449 (by decide +kernel) (by decide +kernel) rfl rfl rfl rfl (fun _ _ _ _ h => h) rfl (fun W => (rn_field Try.underlying46 rfl (by kernel_rfl) (hF449.get rfl) rfl)) ?_
              intro a450 hF451; clear hF449
              refine any_val (i := 10) (v := (.int .u8 (x357.byte.toNat : Nat))) hF451 (by decide +kernel) (by decide +kernel) rfl rfl rfl rfl (fun _ _ _ _ h => h) rfl hS431 (fun W hW => (rn_load (isAgg_no Try.underlying5 rfl) (hF451.get rfl) (Ext.keep ((Ext.refl w411).trans hW.1) hc426))) ?_
              intro a452 hF453; clear hF451
              refine any_pure (i := 11) (v := (.pointer (some ⟨g125, 0 + ((((x357.at_.toNat : Nat) : Int) % (4 : Int)) : Int).toNat, none⟩))) hF453 (by decide +kernel) (by decide +kernel) rfl rfl rfl rfl (fun _ _ _ _ h => h) rfl (fun W => (rn_indexArr Try.underlying44 (by kernel_rfl : (Try.prog.info? 5).map (·.size) = some 1) (hF453.get rfl) (hF453.get rfl) (by omega : (0 : Int) ≤ (((x357.at_.toNat : Nat) : Int) % (4 : Int))) (by omega : ((((x357.at_.toNat : Nat) : Int) % (4 : Int)) : Int) < ((4 : Nat) : Int)))) ?_
              intro a454 hF455; clear hF453
              refine any_one (i := 12) (by decide +kernel) rfl ?_
              refine o_store1 (new := (byteVals (sa1.set (ix x357) x357.byte))) hF455 rfl rfl rfl rfl (hF455.get rfl) (hF455.get rfl) b432 (by kernel_rfl : (Try.prog.info? 5).map (·.size) = some 1) (by rw [byteVals_len ((congrArg List.length hp305).trans ((setA_len _ _).trans hp166.sa4))]; omega) rfl (byteVals_set (by unfold ix; omega)) ?_
              intro w456 b457 hg458; have z459 := hg458.size
              refine ⟨fun h => absurd h (by decide), ?_⟩
              refine any_nil (by decide +kernel) ?_
              refine hK346 _ _ ?_
              clear hK346
              have hF460 := ((((((((((((((((((((((((hF455.nil.cons (hF455.get (t := 118) (v := (.bool (decide (((j : Nat) : Int) < (room : Int))))) rfl)).cons (hF455.get (t := 101) (v := (.bool (decide (((j : Nat) : Int) ≤ (room : Int))))) rfl)).cons (hF455.get (t := 20) (v := (.int .i64 (j : Nat))) rfl)).cons (hF455.get (t := 19) (v := (.bool (decide ((room : Int) < ((wt.length : Nat) : Int))))) rfl)).cons (hF455.get (t := 18) (v := (.int .i64 dd.sync.2)) rfl)).cons (hF455.get (t := 17) (v := (.pointer (some ⟨g260, 0, none⟩))) rfl)).cons (hF455.get (t := 58) (v := (.bool (!x200.sync))) rfl)).cons (hF455.get (t := 14) (v := (.pointer (some ⟨g216, 0, none⟩))) rfl)).cons (hF455.get (t := 49) (v := (.bool (decide (((k : Nat) : Int) < ((l.length : Nat) : Int))))) rfl)).cons (hF455.get (t := 13) (v := (.int .i64 (k : Nat))) rfl)).cons (hF455.get (t := 12) (v := (.int .i64 room)) rfl)).cons (hF455.get (t := 11) (v := (.slice (some ⟨gw, 0, none⟩) wt.length cw)) rfl)).cons (hF455.get (t := 10) (v := (.pointer (some ⟨g125, 0, none⟩))) rfl)).cons (hF455.get (t := 9) (v := (.pointer (some ⟨g117, 0, none⟩))) rfl)).cons (hF455.get (t := 8) (v := (.pointer (some ⟨g109, 0, none⟩))) rfl)).cons (hF455.get (t := 42) (v := (.bool (decide (((((Dk.new 4).1).stop lf).2 : Int) ≠ (0 : Int))))) rfl)).cons (hF455.get (t := 7) (v := (.int .i64 ((((Dk.new 4).1).stop lf).2))) rfl)).cons (hF455.get (t := 6) (v := (.int .i64 ((Dk.new 4).2))) rfl)).cons (hF455.get (t := 5) (v := (.pointer (some ⟨g43, 0, none⟩))) rfl)).cons (hF455.get (t := 25) (v := (.bool (decide ((40 : Int) < ((l.length : Nat) : Int))))) rfl)).cons (hF455.get (t := 22) (v := (.bool false)) rfl)).cons (hF455.get (t := 4) (v := (.bool false)) rfl)).cons (hF455.get (t := 1) (v := (.int .u8 lf)) rfl)).cons (hF455.get (t := 0) (v := (.slice C l.length f)) rfl))
              clear hF455
              refine wp_region_lit ?_
              refine wpl_op (i := 0) rfl (o_val (v := (.int .i64 (j : Nat))) hF460 rfl rfl rfl rfl (rn_move (hF460.get rfl)) ?_)
              intro a461 hF462; clear hF460
              refine wpl_op (i := 1) rfl (o_val (v := (.int .i64 ((j : Nat) + 1))) hF462 rfl rfl rfl rfl (rn_add (hF462.get rfl) rfl (by omega) (by omega)) ?_)
              intro a463 hF464; clear hF462
              refine wpl_op (i := 2) rfl (o_val (v := (.int .i64 ((j : Nat) + 1))) hF464 rfl rfl rfl rfl (rn_assign (hF464.get rfl)) ?_)
              intro a465 hF466; clear hF464
              refine wpList_nil ?_
              have d467 := (hf313.pres (((((Pres.refl w299).ext hx349).grownN hg400 (fun h => by simp only [Clip, Fr, Old] at h; omega)).ext hx412).grownN hg458 (fun h => by simp only [Clip, Fr, Old] at h; omega)))
              have b468 : Blk w456 g43 25 [(.slice A dd.sectors.length c), (.slice B dd.pending.length e), (.int .i64 dd.left), (.bool dd.stopped)] := ((((b306.ext hx349).grownN hg400 (by omega)).ext hx412).grownN hg458 (by omega))
              have b469 : Blk w456 g109 44 (byteVals la) := ((((b307.ext hx349).grownN hg400 (by omega)).ext hx412).grownN hg458 (by omega))
              have b470 : Blk w456 g117 44 (byteVals (fa1.set (ix x357) x357.byte)) := ((b399.ext hx412).grownN hg458 (by omega))
              have b471 : Blk w456 g216 46 [(.bool x200.sync), (.int .u8 (x200.at_.toNat : Nat)), (.int .u8 (x200.byte.toNat : Nat))] := ((((b310.ext hx349).grownN hg400 (by omega)).ext hx412).grownN hg458 (by omega))
              have b472 : Blk w456 g260 25 [(.slice A243 dd.sync.1.sectors.length c244), (.slice B245 dd.sync.1.pending.length e246), (.int .i64 dd.sync.1.left), (.bool dd.sync.1.stopped)] := ((((b311.ext hx349).grownN hg400 (by omega)).ext hx412).grownN hg458 (by omega))
              have r473 := (own_grownE r419 hg458 (by omega))
              refine ⟨⟨j + 1, fa1.set (ix x357) x357.byte, sa1.set (ix x357) x357.byte, ((((((((((((((((((((((hF466.nil.cons (q_get hF466 (t := 20) rfl (by first | rfl | (congr 1; omega) | simp))).cons (q_get hF466 (t := 19) rfl rfl)).cons (q_get hF466 (t := 18) rfl rfl)).cons (q_get hF466 (t := 17) rfl rfl)).cons (q_get hF466 (t := 58) rfl rfl)).cons (q_get hF466 (t := 14) rfl rfl)).cons (q_get hF466 (t := 49) rfl rfl)).cons (q_get hF466 (t := 13) rfl rfl)).cons (q_get hF466 (t := 12) rfl rfl)).cons (q_get hF466 (t := 11) rfl rfl)).cons (q_get hF466 (t := 10) rfl rfl)).cons (q_get hF466 (t := 9) rfl rfl)).cons (q_get hF466 (t := 8) rfl rfl)).cons (q_get hF466 (t := 42) rfl rfl)).cons (q_get hF466 (t := 7) rfl rfl)).cons (q_get hF466 (t := 6) rfl rfl)).cons (q_get hF466 (t := 5) rfl rfl)).cons (q_get hF466 (t := 25) rfl rfl)).cons (q_get hF466 (t := 22) rfl rfl)).cons (q_get hF466 (t := 4) rfl rfl)).cons (q_get hF466 (t := 1) rfl rfl)).cons (q_get hF466 (t := 0) rfl rfl)), (by omega), (by omega), (by rw [hp304]; exact (setA_take hi358).symm), (by rw [hp305]; exact (setA_min1 hi358 (by omega)).symm), ((((((Ext.refl w).trans hx301).trans hx349).grownN hg400 (by omega)).trans hx412).grownN hg458 (by omega)), b468, b469, b470, b457, b471, b472, r473, (RDk.sub (S := (Clip (fun b => b ≠ g43 ∧ b ≠ g109 ∧ b ≠ g117 ∧ b ≠ g125 ∧ b ≠ gw) w299)) d467 (fun b hb => by simp only [Clip, Fr, Old] at hb ⊢; omega))⟩, ?_⟩
              rw [hF466.get (t := 20) rfl, hL314.get (t := 20) rfl]; simp [intOf]; omega
            · skip
              refine wp_cond_false (c_false hF409 rfl (decide_eq_false hc410)) ?_
              refine wp_skip ?_
              refine hK346 _ _ ?_
              clear hK346
              refine wp_region_lit ?_
              refine wpl_op (i := 0) rfl (o_val (v := (.int .i64 (j : Nat))) hF409 rfl rfl rfl rfl (rn_move (hF409.get rfl)) ?_)
              intro a474 hF475; clear hF409
              refine wpl_op (i := 1) rfl (o_val (v := (.int .i64 ((j : Nat) + 1))) hF475 rfl rfl rfl rfl (rn_add (hF475.get rfl) rfl (by omega) (by omega)) ?_)
              intro a476 hF477; clear hF475
              refine wpl_op (i := 2) rfl (o_val (v := (.int .i64 ((j : Nat) + 1))) hF477 rfl rfl rfl rfl (rn_assign (hF477.get rfl)) ?_)
              intro a478 hF479; clear hF477
              refine wpList_nil ?_
              have d480 := (hf313.pres (((Pres.refl w299).ext hx349).grownN hg400 (fun h => by simp only [Clip, Fr, Old] at h; omega)))
              have b481 : Blk w398 g43 25 [(.slice A dd.sectors.length c), (.slice B dd.pending.length e), (.int .i64 dd.left), (.bool dd.stopped)] := ((b306.ext hx349).grownN hg400 (by omega))
              have b482 : Blk w398 g109 44 (byteVals la) := ((b307.ext hx349).grownN hg400 (by omega))
              have b483 : Blk w398 g125 44 (byteVals sa1) := ((b309.ext hx349).grownN hg400 (by omega))
              have b484 : Blk w398 g216 46 [(.bool x200.sync), (.int .u8 (x200.at_.toNat : Nat)), (.int .u8 (x200.byte.toNat : Nat))] := ((b310.ext hx349).grownN hg400 (by omega))
              have b485 : Blk w398 g260 25 [(.slice A243 dd.sync.1.sectors.length c244), (.slice B245 dd.sync.1.pending.length e246), (.int .i64 dd.sync.1.left), (.bool dd.sync.1.stopped)] := ((b311.ext hx349).grownN hg400 (by omega))
              have r486 := (own_grownE r356 hg400 (by omega))
              refine ⟨⟨j + 1, fa1.set (ix x357) x357.byte, sa1, ((((((((((((((((((((((hF479.nil.cons (q_get hF479 (t := 20) rfl (by first | rfl | (congr 1; omega) | simp))).cons (q_get hF479 (t := 19) rfl rfl)).cons (q_get hF479 (t := 18) rfl rfl)).cons (q_get hF479 (t := 17) rfl rfl)).cons (q_get hF479 (t := 58) rfl rfl)).cons (q_get hF479 (t := 14) rfl rfl)).cons (q_get hF479 (t := 49) rfl rfl)).cons (q_get hF479 (t := 13) rfl rfl)).cons (q_get hF479 (t := 12) rfl rfl)).cons (q_get hF479 (t := 11) rfl rfl)).cons (q_get hF479 (t := 10) rfl rfl)).cons (q_get hF479 (t := 9) rfl rfl)).cons (q_get hF479 (t := 8) rfl rfl)).cons (q_get hF479 (t := 42) rfl rfl)).cons (q_get hF479 (t := 7) rfl rfl)).cons (q_get hF479 (t := 6) rfl rfl)).cons (q_get hF479 (t := 5) rfl rfl)).cons (q_get hF479 (t := 25) rfl rfl)).cons (q_get hF479 (t := 22) rfl rfl)).cons (q_get hF479 (t := 4) rfl rfl)).cons (q_get hF479 (t := 1) rfl rfl)).cons (q_get hF479 (t := 0) rfl rfl)), (by omega), (by omega), (by rw [hp304]; exact (setA_take hi358).symm), (by rw [hp305]; exact (setA_min2 (a := sa) (by omega)).symm), ((((Ext.refl w).trans hx301).trans hx349).grownN hg400 (by omega)), b481, b482, b399, b483, b484, b485, r486, (RDk.sub (S := (Clip (fun b => b ≠ g43 ∧ b ≠ g109 ∧ b ≠ g117 ∧ b ≠ g125 ∧ b ≠ gw) w299)) d480 (fun b hb => by simp only [Clip, Fr, Old] at hb ⊢; omega))⟩, ?_⟩
              rw [hF479.get (t := 20) rfl, hL314.get (t := 20) rfl]; simp [intOf]; omega
          · skip
            refine wp_cond_false (c_false hF344 rfl (decide_eq_false hc345)) ?_
            refine wp_exit ?_
            refine exit_then ?_
            refine exit_then ?_
            refine exit_here ?_
            refine hK287 _ _ ?_
            clear hK287
            refine wp_seq_k (fun K487 hK487 => ?_)
            refine wp_seq_k (fun K488 hK488 => ?_)
            refine wp_region_lit ?_
            refine wpl_op (i := 0) rfl (o_val (v := (.bool (decide ((room : Int) < ((wt.length : Nat) : Int))))) hF344 rfl rfl rfl rfl (rn_move (hF344.get rfl)) ?_)
            intro a489 hF490; clear hF344
            refine wpList_nil ?_
            refine hK488 _ _ ?_
            clear hK488
            by_cases hc491 : (room : Int) < ((wt.length : Nat) : Int)
            · skip
              have hjr : j = room.toNat + 1 := by omega
              obtain ⟨hs1, hs2, hs3⟩ := hist_stop hp166 hc491
              have hs4 : dd.sync.1.sectors = sec fa1 sa1 := by rw [hs3, hp304, hp305, hjr, Nat.min_eq_right (by omega)]
              refine wp_cond_true (c_true hF490 rfl (decide_eq_true hc491)) ?_
              refine wp_seq_k (fun K492 hK492 => ?_)
              have hx494 : ∃ W, w299.drew = W ∧ Ext w299 W := ⟨_, rfl, (Ext.refl _).drew⟩
              obtain ⟨w493, e495, hx494⟩ := hx494
              have z496 := hx494.size
              refine any_start (fun W => Ext w493 W ∧ Blk W g260 25 [(.slice A243 dd.sync.1.sectors.length c244), (.slice B245 dd.sync.1.pending.length e246), (.int .i64 dd.sync.1.left), (.bool dd.sync.1.stopped)] ∧ Blk W g117 44 (byteVals fa1) ∧ Blk W g125 44 (byteVals sa1)) (fun i => false) 14 #[false, false, false, false, false, false, false, false, false, false, false, false, false, false] rfl rfl rfl ?_
              rw [e495]; clear e495
              refine any_pure (i := 0) (v := (.int .i64 dd.sync.2)) hF490 (by decide +kernel) (by decide +kernel) rfl rfl rfl rfl (fun _ _ _ _ h => h) rfl (fun W => (rn_move (hF490.get rfl))) ?_
              intro a497 hF498; clear hF490
              refine any_pure (i := 1) (v := (.bool (decide ((dd.sync.2 : Int) = (380 : Int))))) hF498 (by decide +kernel) (by decide +kernel) rfl rfl rfl rfl (fun _ _ _ _ h => h) rfl (fun W => (rn_eql (hF498.get rfl) rfl)) ?_
              intro a499 hF500; clear hF498
              refine any_pure (i := 2) (v := (.bool (decide ((dd.sync.2 : Int) = (380 : Int))))) hF500 (by decide +kernel) (by decide +kernel) rfl rfl rfl rfl (fun _ _ _ _ h => h) rfl (fun W => (rn_move (hF500.get rfl))) ?_
              intro a501 hF502; clear hF500
              refine any_pure (i := 3) (v := (.pointer (some ⟨g260, 3, none⟩))) hF502 (by decide +kernel) (by decide +kernel) rfl rfl rfl rfl (fun _ _ _ _ h => h) (wanted_guard rfl rfl rfl hF502 rfl ((decide_eq_true (by exact hs1)) : decide ((dd.sync.2 : Int) = (380 : Int)) = true) rfl) (fun W => (rn_field Try.underlying25 rfl (by kernel_rfl) (hF502.get rfl) rfl)) ?_
              intro a504 hF505; clear hF502
              have b507 : Blk w493 g260 25 [(.slice A243 dd.sync.1.sectors.length c244), (.slice B245 dd.sync.1.pending.length e246), (.int .i64 dd.sync.1.left), (.bool dd.sync.1.stopped)] := (b311.ext hx494)
              have b508 : Blk w493 g117 44 (byteVals fa1) := (b308.ext hx494)
              have b509 : Blk w493 g125 44 (byteVals sa1) := (b309.ext hx494)
              have hS506 : Ext w493 w493 ∧ Blk w493 g260 25 [(.slice A243 dd.sync.1.sectors.length c244), (.slice B245 dd.sync.1.pending.length e246), (.int .i64 dd.sync.1.left), (.bool dd.sync.1.stopped)] ∧ Blk w493 g117 44 (byteVals fa1) ∧ Blk w493 g125 44 (byteVals sa1) := ⟨(Ext.refl w493), b507, b508, b509⟩
              refine any_val (i := 4) (v := (.bool dd.sync.1.stopped)) hF505 (by decide +kernel) (by decide +kernel) rfl rfl rfl rfl (fun _ _ _ _ h => h) (wanted_guard rfl rfl rfl hF505 rfl ((decide_eq_true (by exact hs1)) : decide ((dd.sync.2 : Int) = (380 : Int)) = true) rfl) hS506 (fun W hW => (rn_load (isAgg_no Try.underlying4 rfl) (hF505.get rfl) (hW.2.1.rule.1 3))) ?_
              intro a510 hF511; clear hF505
              refine any_pure (i := 5) (v := (.bool dd.sync.1.stopped)) hF511 (by decide +kernel) (by decide +kernel) rfl rfl rfl rfl (fun _ _ _ _ h => h) rfl (fun W => (rn_pickT (c_true hF511 rfl ((decide_eq_true (by exact hs1)) : decide ((dd.sync.2 : Int) = (380 : Int)) = true)) (hF511.get rfl))) ?_
              intro a512 hF513; clear hF511
              refine any_pure (i := 6) (v := (.bool dd.sync.1.stopped)) hF513 (by decide +kernel) (by decide +kernel) rfl rfl rfl rfl (fun _ _ _ _ h => h) rfl (fun W => (rn_move (hF513.get rfl))) ?_
              intro a514 hF515; clear hF513
              refine any_val (i := 7) (v := (.agg #[(.slice A243 dd.sync.1.sectors.length c244), (.slice B245 dd.sync.1.pending.length e246), (.int .i64 dd.sync.1.left), (.bool dd.sync.1.stopped)])) hF515 (by decide +kernel) (by decide +kernel) rfl rfl rfl rfl (fun _ _ _ _ h => h) (wanted_guard rfl rfl rfl hF515 rfl (hs2 : dd.sync.1.stopped = true) rfl) hS506 (fun W hW => (rn_loadBlk (hF515.get rfl) hW.2.1 Try.underlying25 rfl (by kernel_rfl : (Try.prog.info? 25).map (·.size) = some 4))) ?_
              intro a517 hF518; clear hF515
              refine any_val (i := 9) (v := (.agg (byteVals fa1).toArray)) hF518 (by decide +kernel) (by decide +kernel) rfl rfl rfl rfl (fun _ _ _ _ h => h) (wanted_guard rfl rfl rfl hF518 rfl (hs2 : dd.sync.1.stopped = true) rfl) hS506 (fun W hW => (rn_loadBlk (hF518.get rfl) hW.2.2.1 Try.underlying44 rfl ((by kernel_rfl : (Try.prog.info? 44).map (·.size) = some 4).trans (congrArg some (byteVals_len ((congrArg List.length hp304).trans ((setA_len _ _).trans hp166.fa4))).symm)))) ?_
              intro a519 hF520; clear hF518
              refine any_val (i := 10) (v := (.agg (byteVals sa1).toArray)) hF520 (by decide +kernel) (by decide +kernel) rfl rfl rfl rfl (fun _ _ _ _ h => h) (wanted_guard rfl rfl rfl hF520 rfl (hs2 : dd.sync.1.stopped = true) rfl) hS506 (fun W hW => (rn_loadBlk (hF520.get rfl) hW.2.2.2 Try.underlying44 rfl ((by kernel_rfl : (Try.prog.info? 44).map (·.size) = some 4).trans (congrArg some (byteVals_len ((congrArg List.length hp305).trans ((setA_len _ _).trans hp166.sa4))).symm)))) ?_
              intro a521 hF522; clear hF520
              refine any_one (i := 8) (by decide +kernel) rfl ?_
              have d523 := (hf313.ext hx494)
              refine o_call hF522 rfl (wanted_guard rfl rfl rfl hF522 rfl (hs2 : dd.sync.1.stopped = true) rfl) rfl rfl (rn_call (args1 (hF522.get rfl)) rfl (by kernel_rfl)) (restart_any (S := (Clip (fun b => b ≠ g43 ∧ b ≠ g109 ∧ b ≠ g117 ∧ b ≠ g125 ∧ b ≠ gw) w299)) _ dd.sync.1 _ d523) ?_
              rintro _ w530 ⟨v529, rfl, hd528, hx531⟩
              obtain ⟨A524, c525, B526, e527, rfl, -, -⟩ := hd528.form
              have hd528 := hd528.clip
              refine ⟨_, rfl, ?_⟩; intro a532 hF533; clear hF522; have z534 := hx531.size
              have b535 : Blk w530 g260 25 [(.slice A243 dd.sync.1.sectors.length c244), (.slice B245 dd.sync.1.pending.length e246), (.int .i64 dd.sync.1.left), (.bool dd.sync.1.stopped)] := (b507.ext hx531)
              have b536 : Blk w530 g117 44 (byteVals fa1) := (b508.ext hx531)
              have b537 : Blk w530 g125 44 (byteVals sa1) := (b509.ext hx531)
              refine ⟨fun _ _ => ⟨((Ext.refl w493).trans hx531), b535, b536, b537⟩, ?_⟩
              refine any_one (i := 11) (by decide +kernel) rfl ?_
              refine o_call hF533 rfl (wanted_guard rfl rfl rfl hF533 rfl (hs2 : dd.sync.1.stopped = true) rfl) rfl rfl (rn_call (args3 (hF533.get rfl) (hF533.get rfl) (hF533.get rfl)) rfl (by kernel_rfl)) (holds_any (S := (Clip (Fr (Clip (fun b => b ≠ g43 ∧ b ≠ g109 ∧ b ≠ g117 ∧ b ≠ g125 ∧ b ≠ gw) w299) w493) w530)) _ dd.sync.1.restart fa1 sa1 _ hd528 ((congrArg List.length hp304).trans ((setA_len _ _).trans hp166.fa4)) ((congrArg List.length hp305).trans ((setA_len _ _).trans hp166.sa4)) (restart_hb hs4)) ?_
              rintro _ w538 ⟨rfl, hx539⟩
              refine ⟨_, rfl, ?_⟩; intro a540 hF541; clear hF533; have z542 := hx539.size
              have b543 : Blk w538 g260 25 [(.slice A243 dd.sync.1.sectors.length c244), (.slice B245 dd.sync.1.pending.length e246), (.int .i64 dd.sync.1.left), (.bool dd.sync.1.stopped)] := (b535.ext hx539)
              have b544 : Blk w538 g117 44 (byteVals fa1) := (b536.ext hx539)
              have b545 : Blk w538 g125 44 (byteVals sa1) := (b537.ext hx539)
              refine ⟨fun _ _ => ⟨(((Ext.refl w493).trans hx531).trans hx539), b543, b544, b545⟩, ?_⟩
              refine any_pure (i := 12) (v := (.bool true)) hF541 (by decide +kernel) (by decide +kernel) rfl rfl rfl rfl (fun _ _ _ _ h => h) rfl (fun W => (rn_pickT (c_true hF541 rfl (hs2 : dd.sync.1.stopped = true)) (hF541.get rfl))) ?_
              intro a546 hF547; clear hF541
              refine any_pure (i := 13) (v := (.bool true)) hF547 (by decide +kernel) (by decide +kernel) rfl rfl rfl rfl (fun _ _ _ _ h => h) rfl (fun W => (rn_assign (hF547.get rfl))) ?_
              intro a548 hF549; clear hF547
              refine any_nil (by decide +kernel) ?_
              refine hK492 _ _ ?_
              clear hK492
              have hF550 := ((((((((((((((((((((((((hF549.nil.cons (hF549.get (t := 131) (v := (.bool (decide ((room : Int) < ((wt.length : Nat) : Int))))) rfl)).cons (hF549.get (t := 101) (v := (.bool (decide (((j : Nat) : Int) ≤ (room : Int))))) rfl)).cons (hF549.get (t := 20) (v := (.int .i64 (j : Nat))) rfl)).cons (hF549.get (t := 19) (v := (.bool (decide ((room : Int) < ((wt.length : Nat) : Int))))) rfl)).cons (hF549.get (t := 18) (v := (.int .i64 dd.sync.2)) rfl)).cons (hF549.get (t := 17) (v := (.pointer (some ⟨g260, 0, none⟩))) rfl)).cons (hF549.get (t := 58) (v := (.bool (!x200.sync))) rfl)).cons (hF549.get (t := 14) (v := (.pointer (some ⟨g216, 0, none⟩))) rfl)).cons (hF549.get (t := 49) (v := (.bool (decide (((k : Nat) : Int) < ((l.length : Nat) : Int))))) rfl)).cons (hF549.get (t := 13) (v := (.int .i64 (k : Nat))) rfl)).cons (hF549.get (t := 12) (v := (.int .i64 room)) rfl)).cons (hF549.get (t := 11) (v := (.slice (some ⟨gw, 0, none⟩) wt.length cw)) rfl)).cons (hF549.get (t := 10) (v := (.pointer (some ⟨g125, 0, none⟩))) rfl)).cons (hF549.get (t := 9) (v := (.pointer (some ⟨g117, 0, none⟩))) rfl)).cons (hF549.get (t := 8) (v := (.pointer (some ⟨g109, 0, none⟩))) rfl)).cons (hF549.get (t := 42) (v := (.bool (decide (((((Dk.new 4).1).stop lf).2 : Int) ≠ (0 : Int))))) rfl)).cons (hF549.get (t := 7) (v := (.int .i64 ((((Dk.new 4).1).stop lf).2))) rfl)).cons (hF549.get (t := 6) (v := (.int .i64 ((Dk.new 4).2))) rfl)).cons (hF549.get (t := 5) (v := (.pointer (some ⟨g43, 0, none⟩))) rfl)).cons (hF549.get (t := 25) (v := (.bool (decide ((40 : Int) < ((l.length : Nat) : Int))))) rfl)).cons (hF549.get (t := 22) (v := (.bool false)) rfl)).cons (hF549.get (t := 4) (v := (.bool true)) rfl)).cons (hF549.get (t := 1) (v := (.int .u8 lf)) rfl)).cons (hF549.get (t := 0) (v := (.slice C l.length f)) rfl))
              clear hF549
              refine wp_ret ?_
              refine ret1 hF550 rfl rfl ?_
              exact ⟨congrArg (fun b => Ending.returned (.bool b)) (rfl : true = true), (((((Ext.refl w).trans hx301).trans hx494).trans hx531).trans hx539)⟩
            · skip
              have hjr : j = wt.length := by omega
              obtain ⟨hs1, hhS⟩ := hist_sync hp166 (by omega)
              have e1 : fa1 = setA fa wt := by rw [hp304, hjr, List.take_length]
              have e2 : sa1 = setA sa wt := by rw [hp305, hjr, Nat.min_eq_left (by omega), List.take_length]
              rw [← e1, ← e2] at hhS
              refine wp_cond_false (c_false hF490 rfl (decide_eq_false hc491)) ?_
              refine wp_skip ?_
              refine hK487 _ _ ?_
              clear hK487
              refine wp_seq_k (fun K551 hK551 => ?_)
              refine wp_seq_k (fun K552 hK552 => ?_)
              refine wp_region_lit ?_
              refine wpl_op (i := 0) rfl (o_val (v := (.int .i64 dd.sync.2)) hF490 rfl rfl rfl rfl (rn_move (hF490.get rfl)) ?_)
              intro a553 hF554; clear hF490
              refine wpl_op (i := 1) rfl (o_val (v := (.bool (decide ((dd.sync.2 : Int) ≠ (0 : Int))))) hF554 rfl rfl rfl rfl (rn_neq (hF554.get rfl) rfl) ?_)
              intro a555 hF556; clear hF554
              refine wpList_nil ?_
              refine hK552 _ _ ?_
              clear hK552
              refine wp_cond_false (c_false hF556 rfl ((decide_eq_false (by rw [hs1]; simp)) : decide ((dd.sync.2 : Int) ≠ (0 : Int)) = false)) ?_
              refine wp_skip ?_
              refine hK551 _ _ ?_
              clear hK551
              refine wp_seq_k (fun K558 hK558 => ?_)
              refine wp_region_lit ?_
              refine wpl_op (i := 0) rfl (o_val (v := (.int .i64 room)) hF556 rfl rfl rfl rfl (rn_move (hF556.get rfl)) ?_)
              intro a559 hF560; clear hF556
              refine wpl_op (i := 1) rfl (o_val (v := (.slice (some ⟨gw, 0, none⟩) wt.length cw)) hF560 rfl rfl rfl rfl (rn_move (hF560.get rfl)) ?_)
              intro a561 hF562; clear hF560
              refine wpl_op (i := 2) rfl (o_val (v := (.int .i64 (wt.length : Nat))) hF562 rfl rfl rfl rfl (rn_len_slice Try.underlying43 (hF562.get rfl)) ?_)
              intro a563 hF564; clear hF562
              refine wpl_op (i := 3) rfl (o_val (v := (.int .i64 (room - (wt.length : Nat)))) hF564 rfl rfl rfl rfl (rn_sub (hF564.get rfl) (hF564.get rfl) (by omega) (by omega)) ?_)
              intro a565 hF566; clear hF564
              refine wpl_op (i := 4) rfl (o_val (v := (.int .i64 (room - (wt.length : Nat)))) hF566 rfl rfl rfl rfl (rn_assign (hF566.get rfl)) ?_)
              intro a567 hF568; clear hF566
              refine wpList_nil ?_
              refine hK558 _ _ ?_
              clear hK558
              have hF569 := (((((((((((((((((((((((((hF568.nil.cons (hF568.get (t := 146) (v := (.bool (decide ((dd.sync.2 : Int) ≠ (0 : Int))))) rfl)).cons (hF568.get (t := 131) (v := (.bool (decide ((room : Int) < ((wt.length : Nat) : Int))))) rfl)).cons (hF568.get (t := 101) (v := (.bool (decide (((j : Nat) : Int) ≤ (room : Int))))) rfl)).cons (hF568.get (t := 20) (v := (.int .i64 (j : Nat))) rfl)).cons (hF568.get (t := 19) (v := (.bool (decide ((room : Int) < ((wt.length : Nat) : Int))))) rfl)).cons (hF568.get (t := 18) (v := (.int .i64 dd.sync.2)) rfl)).cons (hF568.get (t := 17) (v := (.pointer (some ⟨g260, 0, none⟩))) rfl)).cons (hF568.get (t := 58) (v := (.bool (!x200.sync))) rfl)).cons (hF568.get (t := 14) (v := (.pointer (some ⟨g216, 0, none⟩))) rfl)).cons (hF568.get (t := 49) (v := (.bool (decide (((k : Nat) : Int) < ((l.length : Nat) : Int))))) rfl)).cons (hF568.get (t := 13) (v := (.int .i64 (k : Nat))) rfl)).cons (hF568.get (t := 12) (v := (.int .i64 (room - (wt.length : Nat)))) rfl)).cons (hF568.get (t := 11) (v := (.slice (some ⟨gw, 0, none⟩) wt.length cw)) rfl)).cons (hF568.get (t := 10) (v := (.pointer (some ⟨g125, 0, none⟩))) rfl)).cons (hF568.get (t := 9) (v := (.pointer (some ⟨g117, 0, none⟩))) rfl)).cons (hF568.get (t := 8) (v := (.pointer (some ⟨g109, 0, none⟩))) rfl)).cons (hF568.get (t := 42) (v := (.bool (decide (((((Dk.new 4).1).stop lf).2 : Int) ≠ (0 : Int))))) rfl)).cons (hF568.get (t := 7) (v := (.int .i64 ((((Dk.new 4).1).stop lf).2))) rfl)).cons (hF568.get (t := 6) (v := (.int .i64 ((Dk.new 4).2))) rfl)).cons (hF568.get (t := 5) (v := (.pointer (some ⟨g43, 0, none⟩))) rfl)).cons (hF568.get (t := 25) (v := (.bool (decide ((40 : Int) < ((l.length : Nat) : Int))))) rfl)).cons (hF568.get (t := 22) (v := (.bool false)) rfl)).cons (hF568.get (t := 4) (v := (.bool false)) rfl)).cons (hF568.get (t := 1) (v := (.int .u8 lf)) rfl)).cons (hF568.get (t := 0) (v := (.slice C l.length f)) rfl))
              clear hF568
              refine wp_seq_k (fun K570 hK570 => ?_)
              refine wp_region_lit ?_
              refine wpl_op (i := 0) rfl (o_new (fun g => (.slice (some ⟨g, 0, none⟩) 0 0)) [] 46 hF569 rfl rfl rfl rfl (rn_buildSlice (parts0 ) (by kernel_rfl)) ?_)
              intro g571 w572 a577 hF578 z575 z576 b573 hx574; clear hF569
              refine wpl_op (i := 1) rfl (o_val (v := (.slice (some ⟨g571, 0, none⟩) 0 0)) hF578 rfl rfl rfl rfl (rn_assign (hF578.get rfl)) ?_)
              intro a579 hF580; clear hF578
              refine wpList_nil ?_
              refine hK570 _ _ ?_
              clear hK570
              refine wp_region_lit ?_
              have b581 : Blk w572 g260 25 [(.slice A243 dd.sync.1.sectors.length c244), (.slice B245 dd.sync.1.pending.length e246), (.int .i64 dd.sync.1.left), (.bool dd.sync.1.stopped)] := (b311.ext hx574)
              refine wpl_op (i := 0) rfl (o_val (v := (.agg #[(.slice A243 dd.sync.1.sectors.length c244), (.slice B245 dd.sync.1.pending.length e246), (.int .i64 dd.sync.1.left), (.bool dd.sync.1.stopped)])) hF580 rfl rfl rfl rfl (rn_loadBlk (hF580.get rfl) b581 Try.underlying25 rfl (by kernel_rfl : (Try.prog.info? 25).map (·.size) = some 4)) ?_)
              intro a582 hF583; clear hF580
              have b587 : Blk w572 g43 25 [(.slice A dd.sectors.length c), (.slice B dd.pending.length e), (.int .i64 dd.left), (.bool dd.stopped)] := (b306.ext hx574)
              refine wpl_op (i := 1) rfl (o_store (cells := [(.slice A243 dd.sync.1.sectors.length c244), (.slice B245 dd.sync.1.pending.length e246), (.int .i64 dd.sync.1.left), (.bool dd.sync.1.stopped)]) hF583 rfl rfl rfl rfl (hF583.get rfl) (hF583.get rfl) b587 (by kernel_rfl : (Try.prog.info? 25).map (·.size) = some 4) rfl (by simp [Value.oneCell']) ?_)
              intro w584 b585 hg586; have z588 := hg586.size
              refine wpList_nil ?_
              refine hK229 _ _ ?_
              clear hK229
              refine wp_seq_k (fun K589 hK589 => ?_)
              refine wp_region_lit ?_
              refine wpl_op (i := 0) rfl (o_val (v := (.agg #[(.slice A243 dd.sync.1.sectors.length c244), (.slice B245 dd.sync.1.pending.length e246), (.int .i64 dd.sync.1.left), (.bool dd.sync.1.stopped)])) hF583 rfl rfl rfl rfl (rn_loadBlk (hF583.get rfl) b585 Try.underlying25 rfl (by kernel_rfl : (Try.prog.info? 25).map (·.size) = some 4)) ?_)
              intro a590 hF591; clear hF583
              have b592 : Blk w584 g109 44 (byteVals la) := ((b307.ext hx574).grownN hg586 (by omega))
              refine wpl_op (i := 1) rfl (o_val (v := (.agg (byteVals la).toArray)) hF591 rfl rfl rfl rfl (rn_loadBlk (hF591.get rfl) b592 Try.underlying44 rfl ((by kernel_rfl : (Try.prog.info? 44).map (·.size) = some 4).trans (congrArg some (byteVals_len hp166.la4).symm))) ?_)
              intro a593 hF594; clear hF591
              refine wpl_op (i := 2) rfl (o_val (v := (.agg (byteVals la).toArray)) hF594 rfl rfl rfl rfl (rn_loadBlk (hF594.get rfl) b592 Try.underlying44 rfl ((by kernel_rfl : (Try.prog.info? 44).map (·.size) = some 4).trans (congrArg some (byteVals_len hp166.la4).symm))) ?_)
              intro a595 hF596; clear hF594
              have d597 := (hf313.pres (((Pres.refl w299).ext hx574).grownN hg586 (fun h => by simp only [Clip, Fr, Old] at h; omega)))
              refine wpl_op (i := 3) rfl (o_call hF596 rfl rfl rfl rfl (rn_call (args3 (hF596.get rfl) (hF596.get rfl) (hF596.get rfl)) rfl (by kernel_rfl)) (holds_any (S := (Clip (fun b => b ≠ g43 ∧ b ≠ g109 ∧ b ≠ g117 ∧ b ≠ g125 ∧ b ≠ gw) w299)) _ dd.sync.1 la la _ d597 hp166.la4 hp166.la4 hhS.hb) ?_)
              rintro _ w598 ⟨rfl, hx599⟩
              refine ⟨_, rfl, ?_⟩; intro a600 hF601; clear hF596; have z602 := hx599.size
              refine wpl_op (i := 4) rfl (o_val (v := (.bool false)) hF601 rfl rfl rfl rfl (rn_not' (hF601.get rfl) rfl) ?_)
              intro a603 hF604; clear hF601
              refine wpList_nil ?_
              refine hK589 _ _ ?_
              clear hK589
              have hF605 := ((((((((((((((((((((((((((hF604.nil.cons (hF604.get (t := 157) (v := (.bool false)) rfl)).cons (hF604.get (t := 146) (v := (.bool (decide ((dd.sync.2 : Int) ≠ (0 : Int))))) rfl)).cons (hF604.get (t := 131) (v := (.bool (decide ((room : Int) < ((wt.length : Nat) : Int))))) rfl)).cons (hF604.get (t := 101) (v := (.bool (decide (((j : Nat) : Int) ≤ (room : Int))))) rfl)).cons (hF604.get (t := 20) (v := (.int .i64 (j : Nat))) rfl)).cons (hF604.get (t := 19) (v := (.bool (decide ((room : Int) < ((wt.length : Nat) : Int))))) rfl)).cons (hF604.get (t := 18) (v := (.int .i64 dd.sync.2)) rfl)).cons (hF604.get (t := 17) (v := (.pointer (some ⟨g260, 0, none⟩))) rfl)).cons (hF604.get (t := 58) (v := (.bool (!x200.sync))) rfl)).cons (hF604.get (t := 14) (v := (.pointer (some ⟨g216, 0, none⟩))) rfl)).cons (hF604.get (t := 49) (v := (.bool (decide (((k : Nat) : Int) < ((l.length : Nat) : Int))))) rfl)).cons (hF604.get (t := 13) (v := (.int .i64 (k : Nat))) rfl)).cons (hF604.get (t := 12) (v := (.int .i64 (room - (wt.length : Nat)))) rfl)).cons (hF604.get (t := 11) (v := (.slice (some ⟨g571, 0, none⟩) 0 0)) rfl)).cons (hF604.get (t := 10) (v := (.pointer (some ⟨g125, 0, none⟩))) rfl)).cons (hF604.get (t := 9) (v := (.pointer (some ⟨g117, 0, none⟩))) rfl)).cons (hF604.get (t := 8) (v := (.pointer (some ⟨g109, 0, none⟩))) rfl)).cons (hF604.get (t := 42) (v := (.bool (decide (((((Dk.new 4).1).stop lf).2 : Int) ≠ (0 : Int))))) rfl)).cons (hF604.get (t := 7) (v := (.int .i64 ((((Dk.new 4).1).stop lf).2))) rfl)).cons (hF604.get (t := 6) (v := (.int .i64 ((Dk.new 4).2))) rfl)).cons (hF604.get (t := 5) (v := (.pointer (some ⟨g43, 0, none⟩))) rfl)).cons (hF604.get (t := 25) (v := (.bool (decide ((40 : Int) < ((l.length : Nat) : Int))))) rfl)).cons (hF604.get (t := 22) (v := (.bool false)) rfl)).cons (hF604.get (t := 4) (v := (.bool false)) rfl)).cons (hF604.get (t := 1) (v := (.int .u8 lf)) rfl)).cons (hF604.get (t := 0) (v := (.slice C l.length f)) rfl))
              clear hF604
              refine wp_cond_false (c_false hF605 rfl rfl) ?_
              refine wp_skip ?_
              refine hK194 _ _ ?_
              clear hK194
              refine wp_region_lit ?_
              refine wpl_op (i := 0) rfl (o_val (v := (.int .i64 (k : Nat))) hF605 rfl rfl rfl rfl (rn_move (hF605.get rfl)) ?_)
              intro a606 hF607; clear hF605
              refine wpl_op (i := 1) rfl (o_val (v := (.int .i64 ((k : Nat) + 1))) hF607 rfl rfl rfl rfl (rn_add (hF607.get rfl) rfl (by omega) (by omega)) ?_)
              intro a608 hF609; clear hF607
              refine wpl_op (i := 2) rfl (o_val (v := (.int .i64 ((k : Nat) + 1))) hF609 rfl rfl rfl rfl (rn_assign (hF609.get rfl)) ?_)
              intro a610 hF611; clear hF609
              refine wpList_nil ?_
              have b613 : Blk w598 g571 46 [] := ((b573.grownN hg586 (by omega)).ext hx599)
              have r612 : w598.ownsRow w.heap.size 46 3 (.slice (some ⟨g571, 0, none⟩) ([] : List Ac).length 0) ([] : List Ac).length (acsCells []) := own_of_blk (n := 0) (cap := 0) (k := 3) (cur := []) b613 (Nat.le_refl _) (by omega) rfl (by omega : w.heap.size ≤ g571)
              have d614 := (hf313.pres ((((Pres.refl w299).ext hx574).grownN hg586 (fun h => by simp only [Clip, Fr, Old] at h; omega)).ext hx599))
              have b615 : Blk w598 g43 25 [(.slice A243 dd.sync.1.sectors.length c244), (.slice B245 dd.sync.1.pending.length e246), (.int .i64 dd.sync.1.left), (.bool dd.sync.1.stopped)] := (b585.ext hx599)
              have b616 : Blk w598 g109 44 (byteVals la) := (b592.ext hx599)
              have b617 : Blk w598 g117 44 (byteVals fa1) := (((b308.ext hx574).grownN hg586 (by omega)).ext hx599)
              have b618 : Blk w598 g125 44 (byteVals sa1) := (((b309.ext hx574).grownN hg586 (by omega)).ext hx599)
              refine ⟨⟨k + 1, dd.sync.1, A243, c244, B245, e246, la, fa1, sa1, [], room - (wt.length : Nat), g571, 0, (((((((((((((((hF611.nil.cons (q_get hF611 (t := 13) rfl (by first | rfl | (congr 1; omega) | simp))).cons (q_get hF611 (t := 12) rfl (by first | rfl | (congr 1; omega) | simp))).cons (q_get hF611 (t := 11) rfl (by first | rfl | (congr 1; omega) | simp))).cons (q_get hF611 (t := 10) rfl rfl)).cons (q_get hF611 (t := 9) rfl rfl)).cons (q_get hF611 (t := 8) rfl rfl)).cons (q_get hF611 (t := 42) rfl rfl)).cons (q_get hF611 (t := 7) rfl rfl)).cons (q_get hF611 (t := 6) rfl rfl)).cons (q_get hF611 (t := 5) rfl rfl)).cons (q_get hF611 (t := 25) rfl rfl)).cons (q_get hF611 (t := 22) rfl rfl)).cons (q_get hF611 (t := 4) rfl rfl)).cons (q_get hF611 (t := 1) rfl rfl)).cons (q_get hF611 (t := 0) rfl rfl)), (by omega), hhS, (by first | (simp; done) | (simp; omega)), (by omega), (by omega), (((((Ext.refl w).trans hx301).trans hx574).grownN hg586 (by omega)).trans hx599), b615, b616, b617, b618, r612, (RDk.sub (S := (Clip (fun b => b ≠ g43 ∧ b ≠ g109 ∧ b ≠ g117 ∧ b ≠ g125 ∧ b ≠ gw) w299)) d614 (fun b hb => by simp only [Clip, Fr, Old] at hb ⊢; omega))⟩, ?_⟩
              rw [hF611.get (t := 13) rfl, hL176.get (t := 13) rfl]; simp [intOf]; omega
        · skip
          refine wpl_op (i := 5) rfl (o_skip hF334 rfl (unwanted_guard rfl rfl rfl hF334 rfl (decide_eq_false hc335) rfl) rfl rfl ?_)
          intro a619 hF620; clear hF334
          refine wpl_op (i := 6) rfl (o_skip hF620 rfl (unwanted_guard rfl rfl rfl hF620 rfl (decide_eq_false hc335) rfl) rfl rfl ?_)
          intro a621 hF622; clear hF620
          refine wpl_op (i := 7) rfl (o_skip hF622 rfl (unwanted_guard rfl rfl rfl hF622 rfl (decide_eq_false hc335) rfl) rfl rfl ?_)
          intro a623 hF624; clear hF622
          refine wpl_op (i := 8) rfl (o_val (v := (.bool false)) hF624 rfl rfl rfl rfl (rn_pickF (c_false hF624 rfl (decide_eq_false hc335)) rfl) ?_)
          intro a625 hF626; clear hF624
          refine wpList_nil ?_
          refine hK324 _ _ ?_
          clear hK324
          have hF627 := (((((((((((((((((((((((hF626.nil.cons (hF626.get (t := 101) (v := (.bool false)) rfl)).cons (hF626.get (t := 20) (v := (.int .i64 (j : Nat))) rfl)).cons (hF626.get (t := 19) (v := (.bool (decide ((room : Int) < ((wt.length : Nat) : Int))))) rfl)).cons (hF626.get (t := 18) (v := (.int .i64 dd.sync.2)) rfl)).cons (hF626.get (t := 17) (v := (.pointer (some ⟨g260, 0, none⟩))) rfl)).cons (hF626.get (t := 58) (v := (.bool (!x200.sync))) rfl)).cons (hF626.get (t := 14) (v := (.pointer (some ⟨g216, 0, none⟩))) rfl)).cons (hF626.get (t := 49) (v := (.bool (decide (((k : Nat) : Int) < ((l.length : Nat) : Int))))) rfl)).cons (hF626.get (t := 13) (v := (.int .i64 (k : Nat))) rfl)).cons (hF626.get (t := 12) (v := (.int .i64 room)) rfl)).cons (hF626.get (t := 11) (v := (.slice (some ⟨gw, 0, none⟩) wt.length cw)) rfl)).cons (hF626.get (t := 10) (v := (.pointer (some ⟨g125, 0, none⟩))) rfl)).cons (hF626.get (t := 9) (v := (.pointer (some ⟨g117, 0, none⟩))) rfl)).cons (hF626.get (t := 8) (v := (.pointer (some ⟨g109, 0, none⟩))) rfl)).cons (hF626.get (t := 42) (v := (.bool (decide (((((Dk.new 4).1).stop lf).2 : Int) ≠ (0 : Int))))) rfl)).cons (hF626.get (t := 7) (v := (.int .i64 ((((Dk.new 4).1).stop lf).2))) rfl)).cons (hF626.get (t := 6) (v := (.int .i64 ((Dk.new 4).2))) rfl)).cons (hF626.get (t := 5) (v := (.pointer (some ⟨g43, 0, none⟩))) rfl)).cons (hF626.get (t := 25) (v := (.bool (decide ((40 : Int) < ((l.length : Nat) : Int))))) rfl)).cons (hF626.get (t := 22) (v := (.bool false)) rfl)).cons (hF626.get (t := 4) (v := (.bool false)) rfl)).cons (hF626.get (t := 1) (v := (.int .u8 lf)) rfl)).cons (hF626.get (t := 0) (v := (.slice C l.length f)) rfl))
          clear hF626
          refine wp_cond_false (c_false hF627 rfl rfl) ?_
          refine wp_exit ?_
          refine exit_then ?_
          refine exit_then ?_
          refine exit_here ?_
          refine hK287 _ _ ?_
          clear hK287
          refine wp_seq_k (fun K628 hK628 => ?_)
          refine wp_seq_k (fun K629 hK629 => ?_)
          refine wp_region_lit ?_
          refine wpl_op (i := 0) rfl (o_val (v := (.bool (decide ((room : Int) < ((wt.length : Nat) : Int))))) hF627 rfl rfl rfl rfl (rn_move (hF627.get rfl)) ?_)
          intro a630 hF631; clear hF627
          refine wpList_nil ?_
          refine hK629 _ _ ?_
          clear hK629
          by_cases hc632 : (room : Int) < ((wt.length : Nat) : Int)
          · skip
            have hjr : j = room.toNat + 1 := by omega
            obtain ⟨hs1, hs2, hs3⟩ := hist_stop hp166 hc632
            have hs4 : dd.sync.1.sectors = sec fa1 sa1 := by rw [hs3, hp304, hp305, hjr, Nat.min_eq_right (by omega)]
            refine wp_cond_true (c_true hF631 rfl (decide_eq_true hc632)) ?_
            refine wp_seq_k (fun K633 hK633 => ?_)
            have hx635 : ∃ W, w299.drew = W ∧ Ext w299 W := ⟨_, rfl, (Ext.refl _).drew⟩
            obtain ⟨w634, e636, hx635⟩ := hx635
            have z637 := hx635.size
            refine any_start (fun W => Ext w634 W ∧ Blk W g260 25 [(.slice A243 dd.sync.1.sectors.length c244), (.slice B245 dd.sync.1.pending.length e246), (.int .i64 dd.sync.1.left), (.bool dd.sync.1.stopped)] ∧ Blk W g117 44 (byteVals fa1) ∧ Blk W g125 44 (byteVals sa1)) (fun i => false) 14 #[false, false, false, false, false, false, false, false, false, false, false, false, false, false] rfl rfl rfl ?_
            rw [e636]; clear e636
            refine any_pure (i := 0) (v := (.int .i64 dd.sync.2)) hF631 (by decide +kernel) (by decide +kernel) rfl rfl rfl rfl (fun _ _ _ _ h => h) rfl (fun W => (rn_move (hF631.get rfl))) ?_
            intro a638 hF639; clear hF631
            refine any_pure (i := 1) (v := (.bool (decide ((dd.sync.2 : Int) = (380 : Int))))) hF639 (by decide +kernel) (by decide +kernel) rfl rfl rfl rfl (fun _ _ _ _ h => h) rfl (fun W => (rn_eql (hF639.get rfl) rfl)) ?_
            intro a640 hF641; clear hF639
            refine any_pure (i := 2) (v := (.bool (decide ((dd.sync.2 : Int) = (380 : Int))))) hF641 (by decide +kernel) (by decide +kernel) rfl rfl rfl rfl (fun _ _ _ _ h => h) rfl (fun W => (rn_move (hF641.get rfl))) ?_
            intro a642 hF643; clear hF641
            refine any_pure (i := 3) (v := (.pointer (some ⟨g260, 3, none⟩))) hF643 (by decide +kernel) (by decide +kernel) rfl rfl rfl rfl (fun _ _ _ _ h => h) (wanted_guard rfl rfl rfl hF643 rfl ((decide_eq_true (by exact hs1)) : decide ((dd.sync.2 : Int) = (380 : Int)) = true) rfl) (fun W => (rn_field Try.underlying25 rfl (by kernel_rfl) (hF643.get rfl) rfl)) ?_
            intro a645 hF646; clear hF643
            have b648 : Blk w634 g260 25 [(.slice A243 dd.sync.1.sectors.length c244), (.slice B245 dd.sync.1.pending.length e246), (.int .i64 dd.sync.1.left), (.bool dd.sync.1.stopped)] := (b311.ext hx635)
            have b649 : Blk w634 g117 44 (byteVals fa1) := (b308.ext hx635)
            have b650 : Blk w634 g125 44 (byteVals sa1) := (b309.ext hx635)
            have hS647 : Ext w634 w634 ∧ Blk w634 g260 25 [(.slice A243 dd.sync.1.sectors.length c244), (.slice B245 dd.sync.1.pending.length e246), (.int .i64 dd.sync.1.left), (.bool dd.sync.1.stopped)] ∧ Blk w634 g117 44 (byteVals fa1) ∧ Blk w634 g125 44 (byteVals sa1) := ⟨(Ext.refl w634), b648, b649, b650⟩
            refine any_val (i := 4) (v := (.bool dd.sync.1.stopped)) hF646 (by decide +kernel) (by decide +kernel) rfl rfl rfl rfl (fun _ _ _ _ h => h) (wanted_guard rfl rfl rfl hF646 rfl ((decide_eq_true (by exact hs1)) : decide ((dd.sync.2 : Int) = (380 : Int)) = true) rfl) hS647 (fun W hW => (rn_load (isAgg_no Try.underlying4 rfl) (hF646.get rfl) (hW.2.1.rule.1 3))) ?_
            intro a651 hF652; clear hF646
            refine any_pure (i := 5) (v := (.bool dd.sync.1.stopped)) hF652 (by decide +kernel) (by decide +kernel) rfl rfl rfl rfl (fun _ _ _ _ h => h) rfl (fun W => (rn_pickT (c_true hF652 rfl ((decide_eq_true (by exact hs1)) : decide ((dd.sync.2 : Int) = (380 : Int)) = true)) (hF652.get rfl))) ?_
            intro a653 hF654; clear hF652
            refine any_pure (i := 6) (v := (.bool dd.sync.1.stopped)) hF654 (by decide +kernel) (by decide +kernel) rfl rfl rfl rfl (fun _ _ _ _ h => h) rfl (fun W => (rn_move (hF654.get rfl))) ?_
            intro a655 hF656; clear hF654
            refine any_val (i := 7) (v := (.agg #[(.slice A243 dd.sync.1.sectors.length c244), (.slice B245 dd.sync.1.pending.length e246), (.int .i64 dd.sync.1.left), (.bool dd.sync.1.stopped)])) hF656 (by decide +kernel) (by decide +kernel) rfl rfl rfl rfl (fun _ _ _ _ h => h) (wanted_guard rfl rfl rfl hF656 rfl (hs2 : dd.sync.1.stopped = true) rfl) hS647 (fun W hW => (rn_loadBlk (hF656.get rfl) hW.2.1 Try.underlying25 rfl (by kernel_rfl : (Try.prog.info? 25).map (·.size) = some 4))) ?_
            intro a658 hF659; clear hF656
            refine any_val (i := 9) (v := (.agg (byteVals fa1).toArray)) hF659 (by decide +kernel) (by decide +kernel) rfl rfl rfl rfl (fun _ _ _ _ h => h) (wanted_guard rfl rfl rfl hF659 rfl (hs2 : dd.sync.1.stopped = true) rfl) hS647 (fun W hW => (rn_loadBlk (hF659.get rfl) hW.2.2.1 Try.underlying44 rfl ((by kernel_rfl : (Try.prog.info? 44).map (·.size) = some 4).trans (congrArg some (byteVals_len ((congrArg List.length hp304).trans ((setA_len _ _).trans hp166.fa4))).symm)))) ?_
            intro a660 hF661; clear hF659
            refine any_val (i := 10) (v := (.agg (byteVals sa1).toArray)) hF661 (by decide +kernel) (by decide +kernel) rfl rfl rfl rfl (fun _ _ _ _ h => h) (wanted_guard rfl rfl rfl hF661 rfl (hs2 : dd.sync.1.stopped = true) rfl) hS647 (fun W hW => (rn_loadBlk (hF661.get rfl) hW.2.2.2 Try.underlying44 rfl ((by kernel_rfl : (Try.prog.info? 44).map (·.size) = some 4).trans (congrArg some (byteVals_len ((congrArg List.length hp305).trans ((setA_len _ _).trans hp166.sa4))).symm)))) ?_
            intro a662 hF663; clear hF661
            refine any_one (i := 8) (by decide +kernel) rfl ?_
            have d664 := (hf313.ext hx635)
            refine o_call hF663 rfl (wanted_guard rfl rfl rfl hF663 rfl (hs2 : dd.sync.1.stopped = true) rfl) rfl rfl (rn_call (args1 (hF663.get rfl)) rfl (by kernel_rfl)) (restart_any (S := (Clip (fun b => b ≠ g43 ∧ b ≠ g109 ∧ b ≠ g117 ∧ b ≠ g125 ∧ b ≠ gw) w299)) _ dd.sync.1 _ d664) ?_
            rintro _ w671 ⟨v670, rfl, hd669, hx672⟩
            obtain ⟨A665, c666, B667, e668, rfl, -, -⟩ := hd669.form
            have hd669 := hd669.clip
            refine ⟨_, rfl, ?_⟩; intro a673 hF674; clear hF663; have z675 := hx672.size
            have b676 : Blk w671 g260 25 [(.slice A243 dd.sync.1.sectors.length c244), (.slice B245 dd.sync.1.pending.length e246), (.int .i64 dd.sync.1.left), (.bool dd.sync.1.stopped)] := (b648.ext hx672)
            have b677 : Blk w671 g117 44 (byteVals fa1) := (b649.ext hx672)
            have b678 : Blk w671 g125 44 (byteVals sa1) := (b650.ext hx672)
            refine ⟨fun _ _ => ⟨((Ext.refl w634).trans hx672), b676, b677, b678⟩, ?_⟩
            refine any_one (i := 11) (by decide +kernel) rfl ?_
            refine o_call hF674 rfl (wanted_guard rfl rfl rfl hF674 rfl (hs2 : dd.sync.1.stopped = true) rfl) rfl rfl (rn_call (args3 (hF674.get rfl) (hF674.get rfl) (hF674.get rfl)) rfl (by kernel_rfl)) (holds_any (S := (Clip (Fr (Clip (fun b => b ≠ g43 ∧ b ≠ g109 ∧ b ≠ g117 ∧ b ≠ g125 ∧ b ≠ gw) w299) w634) w671)) _ dd.sync.1.restart fa1 sa1 _ hd669 ((congrArg List.length hp304).trans ((setA_len _ _).trans hp166.fa4)) ((congrArg List.length hp305).trans ((setA_len _ _).trans hp166.sa4)) (restart_hb hs4)) ?_
            rintro _ w679 ⟨rfl, hx680⟩
            refine ⟨_, rfl, ?_⟩; intro a681 hF682; clear hF674; have z683 := hx680.size
            have b684 : Blk w679 g260 25 [(.slice A243 dd.sync.1.sectors.length c244), (.slice B245 dd.sync.1.pending.length e246), (.int .i64 dd.sync.1.left), (.bool dd.sync.1.stopped)] := (b676.ext hx680)
            have b685 : Blk w679 g117 44 (byteVals fa1) := (b677.ext hx680)
            have b686 : Blk w679 g125 44 (byteVals sa1) := (b678.ext hx680)
            refine ⟨fun _ _ => ⟨(((Ext.refl w634).trans hx672).trans hx680), b684, b685, b686⟩, ?_⟩
            refine any_pure (i := 12) (v := (.bool true)) hF682 (by decide +kernel) (by decide +kernel) rfl rfl rfl rfl (fun _ _ _ _ h => h) rfl (fun W => (rn_pickT (c_true hF682 rfl (hs2 : dd.sync.1.stopped = true)) (hF682.get rfl))) ?_
            intro a687 hF688; clear hF682
            refine any_pure (i := 13) (v := (.bool true)) hF688 (by decide +kernel) (by decide +kernel) rfl rfl rfl rfl (fun _ _ _ _ h => h) rfl (fun W => (rn_assign (hF688.get rfl))) ?_
            intro a689 hF690; clear hF688
            refine any_nil (by decide +kernel) ?_
            refine hK633 _ _ ?_
            clear hK633
            have hF691 := ((((((((((((((((((((((((hF690.nil.cons (hF690.get (t := 131) (v := (.bool (decide ((room : Int) < ((wt.length : Nat) : Int))))) rfl)).cons (hF690.get (t := 101) (v := (.bool false)) rfl)).cons (hF690.get (t := 20) (v := (.int .i64 (j : Nat))) rfl)).cons (hF690.get (t := 19) (v := (.bool (decide ((room : Int) < ((wt.length : Nat) : Int))))) rfl)).cons (hF690.get (t := 18) (v := (.int .i64 dd.sync.2)) rfl)).cons (hF690.get (t := 17) (v := (.pointer (some ⟨g260, 0, none⟩))) rfl)).cons (hF690.get (t := 58) (v := (.bool (!x200.sync))) rfl)).cons (hF690.get (t := 14) (v := (.pointer (some ⟨g216, 0, none⟩))) rfl)).cons (hF690.get (t := 49) (v := (.bool (decide (((k : Nat) : Int) < ((l.length : Nat) : Int))))) rfl)).cons (hF690.get (t := 13) (v := (.int .i64 (k : Nat))) rfl)).cons (hF690.get (t := 12) (v := (.int .i64 room)) rfl)).cons (hF690.get (t := 11) (v := (.slice (some ⟨gw, 0, none⟩) wt.length cw)) rfl)).cons (hF690.get (t := 10) (v := (.pointer (some ⟨g125, 0, none⟩))) rfl)).cons (hF690.get (t := 9) (v := (.pointer (some ⟨g117, 0, none⟩))) rfl)).cons (hF690.get (t := 8) (v := (.pointer (some ⟨g109, 0, none⟩))) rfl)).cons (hF690.get (t := 42) (v := (.bool (decide (((((Dk.new 4).1).stop lf).2 : Int) ≠ (0 : Int))))) rfl)).cons (hF690.get (t := 7) (v := (.int .i64 ((((Dk.new 4).1).stop lf).2))) rfl)).cons (hF690.get (t := 6) (v := (.int .i64 ((Dk.new 4).2))) rfl)).cons (hF690.get (t := 5) (v := (.pointer (some ⟨g43, 0, none⟩))) rfl)).cons (hF690.get (t := 25) (v := (.bool (decide ((40 : Int) < ((l.length : Nat) : Int))))) rfl)).cons (hF690.get (t := 22) (v := (.bool false)) rfl)).cons (hF690.get (t := 4) (v := (.bool true)) rfl)).cons (hF690.get (t := 1) (v := (.int .u8 lf)) rfl)).cons (hF690.get (t := 0) (v := (.slice C l.length f)) rfl))
            clear hF690
            refine wp_ret ?_
            refine ret1 hF691 rfl rfl ?_
            exact ⟨congrArg (fun b => Ending.returned (.bool b)) (rfl : true = true), (((((Ext.refl w).trans hx301).trans hx635).trans hx672).trans hx680)⟩
          · skip
            have hjr : j = wt.length := by omega
            obtain ⟨hs1, hhS⟩ := hist_sync hp166 (by omega)
            have e1 : fa1 = setA fa wt := by rw [hp304, hjr, List.take_length]
            have e2 : sa1 = setA sa wt := by rw [hp305, hjr, Nat.min_eq_left (by omega), List.take_length]
            rw [← e1, ← e2] at hhS
            refine wp_cond_false (c_false hF631 rfl (decide_eq_false hc632)) ?_
            refine wp_skip ?_
            refine hK628 _ _ ?_
            clear hK628
            refine wp_seq_k (fun K692 hK692 => ?_)
            refine wp_seq_k (fun K693 hK693 => ?_)
            refine wp_region_lit ?_
            refine wpl_op (i := 0) rfl (o_val (v := (.int .i64 dd.sync.2)) hF631 rfl rfl rfl rfl (rn_move (hF631.get rfl)) ?_)
            intro a694 hF695; clear hF631
            refine wpl_op (i := 1) rfl (o_val (v := (.bool (decide ((dd.sync.2 : Int) ≠ (0 : Int))))) hF695 rfl rfl rfl rfl (rn_neq (hF695.get rfl) rfl) ?_)
            intro a696 hF697; clear hF695
            refine wpList_nil ?_
            refine hK693 _ _ ?_
            clear hK693
            refine wp_cond_false (c_false hF697 rfl ((decide_eq_false (by rw [hs1]; simp)) : decide ((dd.sync.2 : Int) ≠ (0 : Int)) = false)) ?_
            refine wp_skip ?_
            refine hK692 _ _ ?_
            clear hK692
            refine wp_seq_k (fun K699 hK699 => ?_)
            refine wp_region_lit ?_
            refine wpl_op (i := 0) rfl (o_val (v := (.int .i64 room)) hF697 rfl rfl rfl rfl (rn_move (hF697.get rfl)) ?_)
            intro a700 hF701; clear hF697
            refine wpl_op (i := 1) rfl (o_val (v := (.slice (some ⟨gw, 0, none⟩) wt.length cw)) hF701 rfl rfl rfl rfl (rn_move (hF701.get rfl)) ?_)
            intro a702 hF703; clear hF701
            refine wpl_op (i := 2) rfl (o_val (v := (.int .i64 (wt.length : Nat))) hF703 rfl rfl rfl rfl (rn_len_slice Try.underlying43 (hF703.get rfl)) ?_)
            intro a704 hF705; clear hF703
            refine wpl_op (i := 3) rfl (o_val (v := (.int .i64 (room - (wt.length : Nat)))) hF705 rfl rfl rfl rfl (rn_sub (hF705.get rfl) (hF705.get rfl) (by omega) (by omega)) ?_)
            intro a706 hF707; clear hF705
            refine wpl_op (i := 4) rfl (o_val (v := (.int .i64 (room - (wt.length : Nat)))) hF707 rfl rfl rfl rfl (rn_assign (hF707.get rfl)) ?_)
            intro a708 hF709; clear hF707
            refine wpList_nil ?_
            refine hK699 _ _ ?_
            clear hK699
            have hF710 := (((((((((((((((((((((((((hF709.nil.cons (hF709.get (t := 146) (v := (.bool (decide ((dd.sync.2 : Int) ≠ (0 : Int))))) rfl)).cons (hF709.get (t := 131) (v := (.bool (decide ((room : Int) < ((wt.length : Nat) : Int))))) rfl)).cons (hF709.get (t := 101) (v := (.bool false)) rfl)).cons (hF709.get (t := 20) (v := (.int .i64 (j : Nat))) rfl)).cons (hF709.get (t := 19) (v := (.bool (decide ((room : Int) < ((wt.length : Nat) : Int))))) rfl)).cons (hF709.get (t := 18) (v := (.int .i64 dd.sync.2)) rfl)).cons (hF709.get (t := 17) (v := (.pointer (some ⟨g260, 0, none⟩))) rfl)).cons (hF709.get (t := 58) (v := (.bool (!x200.sync))) rfl)).cons (hF709.get (t := 14) (v := (.pointer (some ⟨g216, 0, none⟩))) rfl)).cons (hF709.get (t := 49) (v := (.bool (decide (((k : Nat) : Int) < ((l.length : Nat) : Int))))) rfl)).cons (hF709.get (t := 13) (v := (.int .i64 (k : Nat))) rfl)).cons (hF709.get (t := 12) (v := (.int .i64 (room - (wt.length : Nat)))) rfl)).cons (hF709.get (t := 11) (v := (.slice (some ⟨gw, 0, none⟩) wt.length cw)) rfl)).cons (hF709.get (t := 10) (v := (.pointer (some ⟨g125, 0, none⟩))) rfl)).cons (hF709.get (t := 9) (v := (.pointer (some ⟨g117, 0, none⟩))) rfl)).cons (hF709.get (t := 8) (v := (.pointer (some ⟨g109, 0, none⟩))) rfl)).cons (hF709.get (t := 42) (v := (.bool (decide (((((Dk.new 4).1).stop lf).2 : Int) ≠ (0 : Int))))) rfl)).cons (hF709.get (t := 7) (v := (.int .i64 ((((Dk.new 4).1).stop lf).2))) rfl)).cons (hF709.get (t := 6) (v := (.int .i64 ((Dk.new 4).2))) rfl)).cons (hF709.get (t := 5) (v := (.pointer (some ⟨g43, 0, none⟩))) rfl)).cons (hF709.get (t := 25) (v := (.bool (decide ((40 : Int) < ((l.length : Nat) : Int))))) rfl)).cons (hF709.get (t := 22) (v := (.bool false)) rfl)).cons (hF709.get (t := 4) (v := (.bool false)) rfl)).cons (hF709.get (t := 1) (v := (.int .u8 lf)) rfl)).cons (hF709.get (t := 0) (v := (.slice C l.length f)) rfl))
            clear hF709
            refine wp_seq_k (fun K711 hK711 => ?_)
            refine wp_region_lit ?_
            refine wpl_op (i := 0) rfl (o_new (fun g => (.slice (some ⟨g, 0, none⟩) 0 0)) [] 46 hF710 rfl rfl rfl rfl (rn_buildSlice (parts0 ) (by kernel_rfl)) ?_)
            intro g712 w713 a718 hF719 z716 z717 b714 hx715; clear hF710
            refine wpl_op (i := 1) rfl (o_val (v := (.slice (some ⟨g712, 0, none⟩) 0 0)) hF719 rfl rfl rfl rfl (rn_assign (hF719.get rfl)) ?_)
            intro a720 hF721; clear hF719
            refine wpList_nil ?_
            refine hK711 _ _ ?_
            clear hK711
            refine wp_region_lit ?_
            have b722 : Blk w713 g260 25 [(.slice A243 dd.sync.1.sectors.length c244), (.slice B245 dd.sync.1.pending.length e246), (.int .i64 dd.sync.1.left), (.bool dd.sync.1.stopped)] := (b311.ext hx715)
            refine wpl_op (i := 0) rfl (o_val (v := (.agg #[(.slice A243 dd.sync.1.sectors.length c244), (.slice B245 dd.sync.1.pending.length e246), (.int .i64 dd.sync.1.left), (.bool dd.sync.1.stopped)])) hF721 rfl rfl rfl rfl (rn_loadBlk (hF721.get rfl) b722 Try.underlying25 rfl (by kernel_rfl : (Try.prog.info? 25).map (·.size) = some 4)) ?_)
            intro a723 hF724; clear hF721
            have b728 : Blk w713 g43 25 [(.slice A dd.sectors.length c), (.slice B dd.pending.length e), (.int .i64 dd.left), (.bool dd.stopped)] := (b306.ext hx715)
            refine wpl_op (i := 1) rfl (o_store (cells := [(.slice A243 dd.sync.1.sectors.length c244), (.slice B245 dd.sync.1.pending.length e246), (.int .i64 dd.sync.1.left), (.bool dd.sync.1.stopped)]) hF724 rfl rfl rfl rfl (hF724.get rfl) (hF724.get rfl) b728 (by kernel_rfl : (Try.prog.info? 25).map (·.size) = some 4) rfl (by simp [Value.oneCell']) ?_)
            intro w725 b726 hg727; have z729 := hg727.size
            refine wpList_nil ?_
            refine hK229 _ _ ?_
            clear hK229
            refine wp_seq_k (fun K730 hK730 => ?_)
            refine wp_region_lit ?_
            refine wpl_op (i := 0) rfl (o_val (v := (.agg #[(.slice A243 dd.sync.1.sectors.length c244), (.slice B245 dd.sync.1.pending.length e246), (.int .i64 dd.sync.1.left), (.bool dd.sync.1.stopped)])) hF724 rfl rfl rfl rfl (rn_loadBlk (hF724.get rfl) b726 Try.underlying25 rfl (by kernel_rfl : (Try.prog.info? 25).map (·.size) = some 4)) ?_)
            intro a731 hF732; clear hF724
            have b733 : Blk w725 g109 44 (byteVals la) := ((b307.ext hx715).grownN hg727 (by omega))
            refine wpl_op (i := 1) rfl (o_val (v := (.agg (byteVals la).toArray)) hF732 rfl rfl rfl rfl (rn_loadBlk (hF732.get rfl) b733 Try.underlying44 rfl ((by kernel_rfl : (Try.prog.info? 44).map (·.size) = some 4).trans (congrArg some (byteVals_len hp166.la4).symm))) ?_)
            intro a734 hF735; clear hF732
            refine wpl_op (i := 2) rfl (o_val (v := (.agg (byteVals la).toArray)) hF735 rfl rfl rfl rfl (rn_loadBlk (hF735.get rfl) b733 Try.underlying44 rfl ((by kernel_rfl : (Try.prog.info? 44).map (·.size) = some 4).trans (congrArg some (byteVals_len hp166.la4).symm))) ?_)
            intro a736 hF737; clear hF735
            have d738 := (hf313.pres (((Pres.refl w299).ext hx715).grownN hg727 (fun h => by simp only [Clip, Fr, Old] at h; omega)))
            refine wpl_op (i := 3) rfl (o_call hF737 rfl rfl rfl rfl (rn_call (args3 (hF737.get rfl) (hF737.get rfl) (hF737.get rfl)) rfl (by kernel_rfl)) (holds_any (S := (Clip (fun b => b ≠ g43 ∧ b ≠ g109 ∧ b ≠ g117 ∧ b ≠ g125 ∧ b ≠ gw) w299)) _ dd.sync.1 la la _ d738 hp166.la4 hp166.la4 hhS.hb) ?_)
            rintro _ w739 ⟨rfl, hx740⟩
            refine ⟨_, rfl, ?_⟩; intro a741 hF742; clear hF737; have z743 := hx740.size
            refine wpl_op (i := 4) rfl (o_val (v := (.bool false)) hF742 rfl rfl rfl rfl (rn_not' (hF742.get rfl) rfl) ?_)
            intro a744 hF745; clear hF742
            refine wpList_nil ?_
            refine hK730 _ _ ?_
            clear hK730
            have hF746 := ((((((((((((((((((((((((((hF745.nil.cons (hF745.get (t := 157) (v := (.bool false)) rfl)).cons (hF745.get (t := 146) (v := (.bool (decide ((dd.sync.2 : Int) ≠ (0 : Int))))) rfl)).cons (hF745.get (t := 131) (v := (.bool (decide ((room : Int) < ((wt.length : Nat) : Int))))) rfl)).cons (hF745.get (t := 101) (v := (.bool false)) rfl)).cons (hF745.get (t := 20) (v := (.int .i64 (j : Nat))) rfl)).cons (hF745.get (t := 19) (v := (.bool (decide ((room : Int) < ((wt.length : Nat) : Int))))) rfl)).cons (hF745.get (t := 18) (v := (.int .i64 dd.sync.2)) rfl)).cons (hF745.get (t := 17) (v := (.pointer (some ⟨g260, 0, none⟩))) rfl)).cons (hF745.get (t := 58) (v := (.bool (!x200.sync))) rfl)).cons (hF745.get (t := 14) (v := (.pointer (some ⟨g216, 0, none⟩))) rfl)).cons (hF745.get (t := 49) (v := (.bool (decide (((k : Nat) : Int) < ((l.length : Nat) : Int))))) rfl)).cons (hF745.get (t := 13) (v := (.int .i64 (k : Nat))) rfl)).cons (hF745.get (t := 12) (v := (.int .i64 (room - (wt.length : Nat)))) rfl)).cons (hF745.get (t := 11) (v := (.slice (some ⟨g712, 0, none⟩) 0 0)) rfl)).cons (hF745.get (t := 10) (v := (.pointer (some ⟨g125, 0, none⟩))) rfl)).cons (hF745.get (t := 9) (v := (.pointer (some ⟨g117, 0, none⟩))) rfl)).cons (hF745.get (t := 8) (v := (.pointer (some ⟨g109, 0, none⟩))) rfl)).cons (hF745.get (t := 42) (v := (.bool (decide (((((Dk.new 4).1).stop lf).2 : Int) ≠ (0 : Int))))) rfl)).cons (hF745.get (t := 7) (v := (.int .i64 ((((Dk.new 4).1).stop lf).2))) rfl)).cons (hF745.get (t := 6) (v := (.int .i64 ((Dk.new 4).2))) rfl)).cons (hF745.get (t := 5) (v := (.pointer (some ⟨g43, 0, none⟩))) rfl)).cons (hF745.get (t := 25) (v := (.bool (decide ((40 : Int) < ((l.length : Nat) : Int))))) rfl)).cons (hF745.get (t := 22) (v := (.bool false)) rfl)).cons (hF745.get (t := 4) (v := (.bool false)) rfl)).cons (hF745.get (t := 1) (v := (.int .u8 lf)) rfl)).cons (hF745.get (t := 0) (v := (.slice C l.length f)) rfl))
            clear hF745
            refine wp_cond_false (c_false hF746 rfl rfl) ?_
            refine wp_skip ?_
            refine hK194 _ _ ?_
            clear hK194
            refine wp_region_lit ?_
            refine wpl_op (i := 0) rfl (o_val (v := (.int .i64 (k : Nat))) hF746 rfl rfl rfl rfl (rn_move (hF746.get rfl)) ?_)
            intro a747 hF748; clear hF746
            refine wpl_op (i := 1) rfl (o_val (v := (.int .i64 ((k : Nat) + 1))) hF748 rfl rfl rfl rfl (rn_add (hF748.get rfl) rfl (by omega) (by omega)) ?_)
            intro a749 hF750; clear hF748
            refine wpl_op (i := 2) rfl (o_val (v := (.int .i64 ((k : Nat) + 1))) hF750 rfl rfl rfl rfl (rn_assign (hF750.get rfl)) ?_)
            intro a751 hF752; clear hF750
            refine wpList_nil ?_
            have b754 : Blk w739 g712 46 [] := ((b714.grownN hg727 (by omega)).ext hx740)
            have r753 : w739.ownsRow w.heap.size 46 3 (.slice (some ⟨g712, 0, none⟩) ([] : List Ac).length 0) ([] : List Ac).length (acsCells []) := own_of_blk (n := 0) (cap := 0) (k := 3) (cur := []) b754 (Nat.le_refl _) (by omega) rfl (by omega : w.heap.size ≤ g712)
            have d755 := (hf313.pres ((((Pres.refl w299).ext hx715).grownN hg727 (fun h => by simp only [Clip, Fr, Old] at h; omega)).ext hx740))
            have b756 : Blk w739 g43 25 [(.slice A243 dd.sync.1.sectors.length c244), (.slice B245 dd.sync.1.pending.length e246), (.int .i64 dd.sync.1.left), (.bool dd.sync.1.stopped)] := (b726.ext hx740)
            have b757 : Blk w739 g109 44 (byteVals la) := (b733.ext hx740)
            have b758 : Blk w739 g117 44 (byteVals fa1) := (((b308.ext hx715).grownN hg727 (by omega)).ext hx740)
            have b759 : Blk w739 g125 44 (byteVals sa1) := (((b309.ext hx715).grownN hg727 (by omega)).ext hx740)
            refine ⟨⟨k + 1, dd.sync.1, A243, c244, B245, e246, la, fa1, sa1, [], room - (wt.length : Nat), g712, 0, (((((((((((((((hF752.nil.cons (q_get hF752 (t := 13) rfl (by first | rfl | (congr 1; omega) | simp))).cons (q_get hF752 (t := 12) rfl (by first | rfl | (congr 1; omega) | simp))).cons (q_get hF752 (t := 11) rfl (by first | rfl | (congr 1; omega) | simp))).cons (q_get hF752 (t := 10) rfl rfl)).cons (q_get hF752 (t := 9) rfl rfl)).cons (q_get hF752 (t := 8) rfl rfl)).cons (q_get hF752 (t := 42) rfl rfl)).cons (q_get hF752 (t := 7) rfl rfl)).cons (q_get hF752 (t := 6) rfl rfl)).cons (q_get hF752 (t := 5) rfl rfl)).cons (q_get hF752 (t := 25) rfl rfl)).cons (q_get hF752 (t := 22) rfl rfl)).cons (q_get hF752 (t := 4) rfl rfl)).cons (q_get hF752 (t := 1) rfl rfl)).cons (q_get hF752 (t := 0) rfl rfl)), (by omega), hhS, (by first | (simp; done) | (simp; omega)), (by omega), (by omega), (((((Ext.refl w).trans hx301).trans hx715).grownN hg727 (by omega)).trans hx740), b756, b757, b758, b759, r753, (RDk.sub (S := (Clip (fun b => b ≠ g43 ∧ b ≠ g109 ∧ b ≠ g117 ∧ b ≠ g125 ∧ b ≠ gw) w299)) d755 (fun b hb => by simp only [Clip, Fr, Old] at hb ⊢; omega))⟩, ?_⟩
            rw [hF752.get (t := 13) rfl, hL176.get (t := 13) rfl]; simp [intOf]; omega
      · skip
        refine wp_cond_true (c_true hF236 rfl (not_f hc237)) ?_
        refine wp_meet (fun a' W => ∃ (xg812 : Nat) (xA793 : Option Addr) (xc794 : Nat) (xB795 : Option Addr) (xe796 : Nat), Sl 163 [(0, (.slice C l.length f)), (1, (.int .u8 lf)), (4, (.bool false)), (22, (.bool false)), (25, (.bool (decide ((40 : Int) < ((l.length : Nat) : Int))))), (5, (.pointer (some ⟨g43, 0, none⟩))), (6, (.int .i64 ((Dk.new 4).2))), (7, (.int .i64 ((((Dk.new 4).1).stop lf).2))), (42, (.bool (decide (((((Dk.new 4).1).stop lf).2 : Int) ≠ (0 : Int))))), (8, (.pointer (some ⟨g109, 0, none⟩))), (9, (.pointer (some ⟨g117, 0, none⟩))), (10, (.pointer (some ⟨g125, 0, none⟩))), (11, (.slice (some ⟨gw, 0, none⟩) wt.length cw)), (12, (.int .i64 room)), (13, (.int .i64 (k : Nat))), (49, (.bool (decide (((k : Nat) : Int) < ((l.length : Nat) : Int))))), (14, (.pointer (some ⟨g216, 0, none⟩))), (58, (.bool (!x200.sync))), (15, (.pointer (some ⟨xg812, 0, none⟩))), (16, (.int .i64 ((dd.write (((x200.at_.toNat : Nat) : Int) % (4 : Int)) (dbl x200.byte)).2)))] a' ∧ Ext w224 W ∧ Blk W xg812 25 [(.slice xA793 (((dd.write (((x200.at_.toNat : Nat) : Int) % (4 : Int)) (dbl x200.byte)).1).sectors.length) xc794), (.slice xB795 (((dd.write (((x200.at_.toNat : Nat) : Int) % (4 : Int)) (dbl x200.byte)).1).pending.length) xe796), (.int .i64 (((dd.write (((x200.at_.toNat : Nat) : Int) % (4 : Int)) (dbl x200.byte)).1).left)), (.bool (((dd.write (((x200.at_.toNat : Nat) : Int) % (4 : Int)) (dbl x200.byte)).1).stopped))] ∧ w224.heap.size ≤ xg812 ∧ RDk (Clip (fun b => b ≠ g43 ∧ b ≠ g216 ∧ b ≠ g109 ∧ b ≠ g125 ∧ b ≠ g117 ∧ b ≠ xg812 ∧ b ≠ gw) W) W (.agg #[(.slice xA793 (((dd.write (((x200.at_.toNat : Nat) : Int) % (4 : Int)) (dbl x200.byte)).1).sectors.length) xc794), (.slice xB795 (((dd.write (((x200.at_.toNat : Nat) : Int) % (4 : Int)) (dbl x200.byte)).1).pending.length) xe796), (.int .i64 (((dd.write (((x200.at_.toNat : Nat) : Int) % (4 : Int)) (dbl x200.byte)).1).left)), (.bool (((dd.write (((x200.at_.toNat : Nat) : Int) % (4 : Int)) (dbl x200.byte)).1).stopped))]) ((dd.write (((x200.at_.toNat : Nat) : Int) % (4 : Int)) (dbl x200.byte)).1)) ?_ ?_
        · skip
          have hx761 : ∃ W, w224.drew = W ∧ Ext w224 W := ⟨_, rfl, (Ext.refl _).drew⟩
          obtain ⟨w760, e762, hx761⟩ := hx761
          have z763 := hx761.size
          refine any_start (fun W => Ext w760 W ∧ Blk W g43 25 [(.slice A dd.sectors.length c), (.slice B dd.pending.length e), (.int .i64 dd.left), (.bool dd.stopped)] ∧ Blk W g216 46 [(.bool x200.sync), (.int .u8 (x200.at_.toNat : Nat)), (.int .u8 (x200.byte.toNat : Nat))]) (fun i => i == 13) 15 #[false, false, false, false, false, false, false, false, false, false, false, false, false, false, false] rfl rfl rfl ?_
          rw [e762]; clear e762
          have b765 : Blk w760 g43 25 [(.slice A dd.sectors.length c), (.slice B dd.pending.length e), (.int .i64 dd.left), (.bool dd.stopped)] := (((b170.ext hx219).grownN hg226 (by omega)).ext hx761)
          have b766 : Blk w760 g216 46 [(.bool x200.sync), (.int .u8 (x200.at_.toNat : Nat)), (.int .u8 (x200.byte.toNat : Nat))] := (b225.ext hx761)
          have hS764 : Ext w760 w760 ∧ Blk w760 g43 25 [(.slice A dd.sectors.length c), (.slice B dd.pending.length e), (.int .i64 dd.left), (.bool dd.stopped)] ∧ Blk w760 g216 46 [(.bool x200.sync), (.int .u8 (x200.at_.toNat : Nat)), (.int .u8 (x200.byte.toNat : Nat))] := ⟨(Ext.refl w760), b765, b766⟩
          refine any_val (i := 0) (v := (.agg #[(.slice A dd.sectors.length c), (.slice B dd.pending.length e), (.int .i64 dd.left), (.bool dd.stopped)])) hF236 (by decide +kernel) (by decide +kernel) rfl rfl rfl rfl (fun _ _ _ _ h => h) rfl hS764 (fun W hW => (rn_loadBlk (hF236.get rfl) hW.2.1 Try.underlying25 rfl (by kernel_rfl : (Try.prog.info? 25).map (·.size) = some 4))) ?_
          intro a767 hF768; clear hF236
          refine any_pure (i := 1) (v := (.pointer (some ⟨g216, 1, none⟩))) hF768 (by decide +kernel) (by decide +kernel) rfl rfl rfl rfl (fun _ _ _ _ h => h) rfl (fun W => (rn_field Try.underlying46 rfl (by kernel_rfl) (hF768.get rfl) rfl)) ?_
          intro a769 hF770; clear hF768
          refine any_val (i := 2) (v := (.int .u8 (x200.at_.toNat : Nat))) hF770 (by decide +kernel) (by decide +kernel) rfl rfl rfl rfl (fun _ _ _ _ h => h) rfl hS764 (fun W hW => (rn_load (isAgg_no Try.underlying5 rfl) (hF770.get rfl) (hW.2.2.rule.1 1))) ?_
          intro a771 hF772; clear hF770
          refine any_pure (i := 3) (v := (.int .u8 (((x200.at_.toNat : Nat) : Int) % (4 : Int)))) hF772 (by decide +kernel) (by decide +kernel) rfl rfl rfl rfl (fun _ _ _ _ h => h) rfl (fun W => (rn_rem (hF772.get rfl) rfl (by omega : (0 : Int) ≤ (x200.at_.toNat : Nat)) (by omega : (0 : Int) < 4))) ?_
          intro a773 hF774; clear hF772
          refine any_val (i := 4) (v := (.int .i64 (((x200.at_.toNat : Nat) : Int) % (4 : Int)))) hF774 (by decide +kernel) (by decide +kernel) rfl rfl rfl rfl (fun _ _ _ _ h => h) rfl hS764 (fun W hW => (rn_conv Try.underlying5 Try.underlying3 (hF774.get rfl) (IntWalk.i64_in _ (by omega)))) ?_
          intro a775 hF776; clear hF774
          refine any_pure (i := 5) (v := (.pointer (some ⟨g216, 2, none⟩))) hF776 (by decide +kernel) (by decide +kernel) rfl rfl rfl rfl (fun _ _ _ _ h => h) rfl (fun W => (rn_field Try.underlying46 rfl (by kernel_rfl) (hF776.get rfl) rfl)) ?_
          intro a777 hF778; clear hF776
          refine any_val (i := 6) (v := (.int .u8 (x200.byte.toNat : Nat))) hF778 (by decide +kernel) (by decide +kernel) rfl rfl rfl rfl (fun _ _ _ _ h => h) rfl hS764 (fun W hW => (rn_load (isAgg_no Try.underlying5 rfl) (hF778.get rfl) (hW.2.2.rule.1 2))) ?_
          intro a779 hF780; clear hF778
          refine any_two (i := 7) (k := 12) (by decide +kernel) rfl rfl ?_ ?_
          · skip
            refine o_call hF780 rfl rfl rfl rfl (rn_call (args1 (hF780.get rfl)) rfl (by kernel_rfl)) (double_any x200.byte _) ?_
            rintro _ w785 ⟨v784, rfl, hb783, hx786⟩
            obtain ⟨A781, c782, rfl, -, -⟩ := hb783.form
            have hb783 := hb783.clip
            refine ⟨_, rfl, ?_⟩; intro a787 hF788; clear hF780; have z789 := hx786.size
            have b790 : Blk w785 g43 25 [(.slice A dd.sectors.length c), (.slice B dd.pending.length e), (.int .i64 dd.left), (.bool dd.stopped)] := (b765.ext hx786)
            have b791 : Blk w785 g216 46 [(.bool x200.sync), (.int .u8 (x200.at_.toNat : Nat)), (.int .u8 (x200.byte.toNat : Nat))] := (b766.ext hx786)
            refine ⟨fun _ _ => ⟨((Ext.refl w760).trans hx786), b790, b791⟩, ?_⟩
            refine any_two (i := 8) (k := 12) (by decide +kernel) rfl rfl ?_ ?_
            · skip
              have d792 := (hf175.pres (((((Pres.refl w162).ext hx219).grownN hg226 (fun h => by simp only [Clip, Fr, Old] at h; omega)).ext hx761).ext hx786))
              refine o_call hF788 rfl rfl rfl rfl (rn_call (args3 (hF788.get rfl) (hF788.get rfl) (hF788.get rfl)) rfl (by kernel_rfl)) (write_any (S := (fun b => (Clip (fun b => b ≠ g43 ∧ b ≠ g109 ∧ b ≠ g117 ∧ b ≠ g125 ∧ b ≠ gw) w162) b ∨ (Clip (fun b => w760.heap.size ≤ b) w785) b)) _ _ dd _ (dbl x200.byte) _ (d792.sub (fun _ => Or.inl)) (hb783.sub (fun _ => Or.inr))) ?_
              rintro _ w799 ⟨v798, rfl, hd797, hx800⟩
              obtain ⟨A793, c794, B795, e796, rfl, -, -⟩ := hd797.form
              have hd797 := hd797.clip
              refine ⟨_, rfl, ?_⟩; intro a801 hF802; clear hF788; have z803 := hx800.size
              have b804 : Blk w799 g43 25 [(.slice A dd.sectors.length c), (.slice B dd.pending.length e), (.int .i64 dd.left), (.bool dd.stopped)] := (b790.ext hx800)
              have b805 : Blk w799 g216 46 [(.bool x200.sync), (.int .u8 (x200.at_.toNat : Nat)), (.int .u8 (x200.byte.toNat : Nat))] := (b791.ext hx800)
              refine ⟨fun _ _ => ⟨(((Ext.refl w760).trans hx786).trans hx800), b804, b805⟩, ?_⟩
              refine any_pure (i := 9) (v := (.tuple #[(.agg #[(.slice A793 (((dd.write (((x200.at_.toNat : Nat) : Int) % (4 : Int)) (dbl x200.byte)).1).sectors.length) c794), (.slice B795 (((dd.write (((x200.at_.toNat : Nat) : Int) % (4 : Int)) (dbl x200.byte)).1).pending.length) e796), (.int .i64 (((dd.write (((x200.at_.toNat : Nat) : Int) % (4 : Int)) (dbl x200.byte)).1).left)), (.bool (((dd.write (((x200.at_.toNat : Nat) : Int) % (4 : Int)) (dbl x200.byte)).1).stopped))]), (.int .i64 ((dd.write (((x200.at_.toNat : Nat) : Int) % (4 : Int)) (dbl x200.byte)).2))])) hF802 (by decide +kernel) (by decide +kernel) rfl rfl rfl rfl (fun _ _ _ _ h => h) rfl (fun W => (rn_move (hF802.get rfl))) ?_
              intro a806 hF807; clear hF802
              refine any_pure (i := 10) (v := (.agg #[(.slice A793 (((dd.write (((x200.at_.toNat : Nat) : Int) % (4 : Int)) (dbl x200.byte)).1).sectors.length) c794), (.slice B795 (((dd.write (((x200.at_.toNat : Nat) : Int) % (4 : Int)) (dbl x200.byte)).1).pending.length) e796), (.int .i64 (((dd.write (((x200.at_.toNat : Nat) : Int) % (4 : Int)) (dbl x200.byte)).1).left)), (.bool (((dd.write (((x200.at_.toNat : Nat) : Int) % (4 : Int)) (dbl x200.byte)).1).stopped))])) hF807 (by decide +kernel) (by decide +kernel) rfl rfl rfl rfl (fun _ _ _ _ h => h) rfl (fun W => (rn_extract (hF807.get rfl) rfl)) ?_
              intro a808 hF809; clear hF807
              refine any_pure (i := 11) (v := (.int .i64 ((dd.write (((x200.at_.toNat : Nat) : Int) % (4 : Int)) (dbl x200.byte)).2))) hF809 (by decide +kernel) (by decide +kernel) rfl rfl rfl rfl (fun _ _ _ _ h => h) rfl (fun W => (rn_extract (hF809.get rfl) rfl)) ?_
              intro a810 hF811; clear hF809
              refine any_one (i := 12) (by decide +kernel) rfl ?_
              refine o_new (fun g => (.pointer (some ⟨g, 0, none⟩))) [(.slice none 0 0), (.slice none 0 0), (.int .i64 0), (.bool false)] 25 hF811 rfl rfl rfl rfl (by kernel_rfl) ?_
              intro g812 w813 a818 hF819 z816 z817 b814 hx815; clear hF811
              have b820 : Blk w813 g43 25 [(.slice A dd.sectors.length c), (.slice B dd.pending.length e), (.int .i64 dd.left), (.bool dd.stopped)] := (b804.ext hx815)
              have b821 : Blk w813 g216 46 [(.bool x200.sync), (.int .u8 (x200.at_.toNat : Nat)), (.int .u8 (x200.byte.toNat : Nat))] := (b805.ext hx815)
              refine ⟨fun _ _ => ⟨((((Ext.refl w760).trans hx786).trans hx800).trans hx815), b820, b821⟩, ?_⟩
              refine any_one (i := 13) (by decide +kernel) rfl ?_
              refine o_store (cells := [(.slice A793 (((dd.write (((x200.at_.toNat : Nat) : Int) % (4 : Int)) (dbl x200.byte)).1).sectors.length) c794), (.slice B795 (((dd.write (((x200.at_.toNat : Nat) : Int) % (4 : Int)) (dbl x200.byte)).1).pending.length) e796), (.int .i64 (((dd.write (((x200.at_.toNat : Nat) : Int) % (4 : Int)) (dbl x200.byte)).1).left)), (.bool (((dd.write (((x200.at_.toNat : Nat) : Int) % (4 : Int)) (dbl x200.byte)).1).stopped))]) hF819 rfl rfl rfl rfl (hF819.get rfl) (hF819.get rfl) b814 (by kernel_rfl : (Try.prog.info? 25).map (·.size) = some 4) rfl (by simp [Value.oneCell']) ?_
              intro w822 b823 hg824; have z825 := hg824.size
              refine ⟨fun h => absurd h (by decide), ?_⟩
              refine any_pure (i := 14) (v := (.int .i64 ((dd.write (((x200.at_.toNat : Nat) : Int) % (4 : Int)) (dbl x200.byte)).2))) hF819 (by decide +kernel) (by decide +kernel) rfl rfl rfl rfl (fun _ _ _ _ h => h) rfl (fun W => (rn_assign (hF819.get rfl))) ?_
              intro a826 hF827; clear hF819
              refine any_nil (by decide +kernel) ?_
              have d828 := (hd797.pres (((Pres.refl w799).ext hx815).grownN hg824 (fun h => by simp only [Clip, Fr, Old] at h; omega)))
              exact ⟨g812, A793, c794, B795, e796, ((((((((((((((((((((hF827.nil.cons (hF827.get (t := 16) (v := (.int .i64 ((dd.write (((x200.at_.toNat : Nat) : Int) % (4 : Int)) (dbl x200.byte)).2))) rfl)).cons (hF827.get (t := 15) (v := (.pointer (some ⟨g812, 0, none⟩))) rfl)).cons (hF827.get (t := 58) (v := (.bool (!x200.sync))) rfl)).cons (hF827.get (t := 14) (v := (.pointer (some ⟨g216, 0, none⟩))) rfl)).cons (hF827.get (t := 49) (v := (.bool (decide (((k : Nat) : Int) < ((l.length : Nat) : Int))))) rfl)).cons (hF827.get (t := 13) (v := (.int .i64 (k : Nat))) rfl)).cons (hF827.get (t := 12) (v := (.int .i64 room)) rfl)).cons (hF827.get (t := 11) (v := (.slice (some ⟨gw, 0, none⟩) wt.length cw)) rfl)).cons (hF827.get (t := 10) (v := (.pointer (some ⟨g125, 0, none⟩))) rfl)).cons (hF827.get (t := 9) (v := (.pointer (some ⟨g117, 0, none⟩))) rfl)).cons (hF827.get (t := 8) (v := (.pointer (some ⟨g109, 0, none⟩))) rfl)).cons (hF827.get (t := 42) (v := (.bool (decide (((((Dk.new 4).1).stop lf).2 : Int) ≠ (0 : Int))))) rfl)).cons (hF827.get (t := 7) (v := (.int .i64 ((((Dk.new 4).1).stop lf).2))) rfl)).cons (hF827.get (t := 6) (v := (.int .i64 ((Dk.new 4).2))) rfl)).cons (hF827.get (t := 5) (v := (.pointer (some ⟨g43, 0, none⟩))) rfl)).cons (hF827.get (t := 25) (v := (.bool (decide ((40 : Int) < ((l.length : Nat) : Int))))) rfl)).cons (hF827.get (t := 22) (v := (.bool false)) rfl)).cons (hF827.get (t := 4) (v := (.bool false)) rfl)).cons (hF827.get (t := 1) (v := (.int .u8 lf)) rfl)).cons (hF827.get (t := 0) (v := (.slice C l.length f)) rfl)), ((((((Ext.refl w224).trans hx761).trans hx786).trans hx800).trans hx815).grownN hg824 (by omega)), b823, (by omega), (RDk.sub (S := (Clip (Fr (fun b => (Clip (fun b => b ≠ g43 ∧ b ≠ g109 ∧ b ≠ g117 ∧ b ≠ g125 ∧ b ≠ gw) w162) b ∨ (Clip (fun b => w760.heap.size ≤ b) w785) b) w785) w799)) d828 (fun b hb => by simp only [Clip, Fr, Old] at hb ⊢; omega))⟩
            · skip
              refine o_new (fun g => (.pointer (some ⟨g, 0, none⟩))) [(.slice none 0 0), (.slice none 0 0), (.int .i64 0), (.bool false)] 25 hF788 rfl rfl rfl rfl (by kernel_rfl) ?_
              intro g828 w829 a834 hF835 z832 z833 b830 hx831; clear hF788
              have b836 : Blk w829 g43 25 [(.slice A dd.sectors.length c), (.slice B dd.pending.length e), (.int .i64 dd.left), (.bool dd.stopped)] := (b790.ext hx831)
              have b837 : Blk w829 g216 46 [(.bool x200.sync), (.int .u8 (x200.at_.toNat : Nat)), (.int .u8 (x200.byte.toNat : Nat))] := (b791.ext hx831)
              refine ⟨fun _ _ => ⟨(((Ext.refl w760).trans hx786).trans hx831), b836, b837⟩, ?_⟩
              refine any_one (i := 8) (by decide +kernel) rfl ?_
              have d838 := (hf175.pres ((((((Pres.refl w162).ext hx219).grownN hg226 (fun h => by simp only [Clip, Fr, Old] at h; omega)).ext hx761).ext hx786).ext hx831))
              have d839 := (hb783.ext hx831)
              refine o_call hF835 rfl rfl rfl rfl (rn_call (args3 (hF835.get rfl) (hF835.get rfl) (hF835.get rfl)) rfl (by kernel_rfl)) (write_any (S := (fun b => (Clip (fun b => b ≠ g43 ∧ b ≠ g109 ∧ b ≠ g117 ∧ b ≠ g125 ∧ b ≠ gw) w162) b ∨ (Clip (fun b => w760.heap.size ≤ b) w785) b)) _ _ dd _ (dbl x200.byte) _ (d838.sub (fun _ => Or.inl)) (d839.sub (fun _ => Or.inr))) ?_
              rintro _ w846 ⟨v845, rfl, hd844, hx847⟩
              obtain ⟨A840, c841, B842, e843, rfl, -, -⟩ := hd844.form
              have hd844 := hd844.clip
              refine ⟨_, rfl, ?_⟩; intro a848 hF849; clear hF835; have z850 := hx847.size
              have b851 : Blk w846 g43 25 [(.slice A dd.sectors.length c), (.slice B dd.pending.length e), (.int .i64 dd.left), (.bool dd.stopped)] := (b836.ext hx847)
              have b852 : Blk w846 g216 46 [(.bool x200.sync), (.int .u8 (x200.at_.toNat : Nat)), (.int .u8 (x200.byte.toNat : Nat))] := (b837.ext hx847)
              refine ⟨fun _ _ => ⟨((((Ext.refl w760).trans hx786).trans hx831).trans hx847), b851, b852⟩, ?_⟩
              refine any_pure (i := 9) (v := (.tuple #[(.agg #[(.slice A840 (((dd.write (((x200.at_.toNat : Nat) : Int) % (4 : Int)) (dbl x200.byte)).1).sectors.length) c841), (.slice B842 (((dd.write (((x200.at_.toNat : Nat) : Int) % (4 : Int)) (dbl x200.byte)).1).pending.length) e843), (.int .i64 (((dd.write (((x200.at_.toNat : Nat) : Int) % (4 : Int)) (dbl x200.byte)).1).left)), (.bool (((dd.write (((x200.at_.toNat : Nat) : Int) % (4 : Int)) (dbl x200.byte)).1).stopped))]), (.int .i64 ((dd.write (((x200.at_.toNat : Nat) : Int) % (4 : Int)) (dbl x200.byte)).2))])) hF849 (by decide +kernel) (by decide +kernel) rfl rfl rfl rfl (fun _ _ _ _ h => h) rfl (fun W => (rn_move (hF849.get rfl))) ?_
              intro a853 hF854; clear hF849
              refine any_pure (i := 10) (v := (.agg #[(.slice A840 (((dd.write (((x200.at_.toNat : Nat) : Int) % (4 : Int)) (dbl x200.byte)).1).sectors.length) c841), (.slice B842 (((dd.write (((x200.at_.toNat : Nat) : Int) % (4 : Int)) (dbl x200.byte)).1).pending.length) e843), (.int .i64 (((dd.write (((x200.at_.toNat : Nat) : Int) % (4 : Int)) (dbl x200.byte)).1).left)), (.bool (((dd.write (((x200.at_.toNat : Nat) : Int) % (4 : Int)) (dbl x200.byte)).1).stopped))])) hF854 (by decide +kernel) (by decide +kernel) rfl rfl rfl rfl (fun _ _ _ _ h => h) rfl (fun W => (rn_extract (hF854.get rfl) rfl)) ?_
              intro a855 hF856; clear hF854
              refine any_pure (i := 11) (v := (.int .i64 ((dd.write (((x200.at_.toNat : Nat) : Int) % (4 : Int)) (dbl x200.byte)).2))) hF856 (by decide +kernel) (by decide +kernel) rfl rfl rfl rfl (fun _ _ _ _ h => h) rfl (fun W => (rn_extract (hF856.get rfl) rfl)) ?_
              intro a857 hF858; clear hF856
              refine any_one (i := 13) (by decide +kernel) rfl ?_
              have b862 : Blk w846 g828 25 [(.slice none 0 0), (.slice none 0 0), (.int .i64 0), (.bool false)] := (b830.ext hx847)
              refine o_store (cells := [(.slice A840 (((dd.write (((x200.at_.toNat : Nat) : Int) % (4 : Int)) (dbl x200.byte)).1).sectors.length) c841), (.slice B842 (((dd.write (((x200.at_.toNat : Nat) : Int) % (4 : Int)) (dbl x200.byte)).1).pending.length) e843), (.int .i64 (((dd.write (((x200.at_.toNat : Nat) : Int) % (4 : Int)) (dbl x200.byte)).1).left)), (.bool (((dd.write (((x200.at_.toNat : Nat) : Int) % (4 : Int)) (dbl x200.byte)).1).stopped))]) hF858 rfl rfl rfl rfl (hF858.get rfl) (hF858.get rfl) b862 (by kernel_rfl : (Try.prog.info? 25).map (·.size) = some 4) rfl (by simp [Value.oneCell']) ?_
              intro w859 b860 hg861; have z863 := hg861.size
              refine ⟨fun h => absurd h (by decide), ?_⟩
              refine any_pure (i := 14) (v := (.int .i64 ((dd.write (((x200.at_.toNat : Nat) : Int) % (4 : Int)) (dbl x200.byte)).2))) hF858 (by decide +kernel) (by decide +kernel) rfl rfl rfl rfl (fun _ _ _ _ h => h) rfl (fun W => (rn_assign (hF858.get rfl))) ?_
              intro a864 hF865; clear hF858
              refine any_nil (by decide +kernel) ?_
              have d866 := (hd844.pres ((Pres.refl w846).grownN hg861 (fun h => by simp only [Clip, Fr, Old] at h; omega)))
              exact ⟨g828, A840, c841, B842, e843, ((((((((((((((((((((hF865.nil.cons (hF865.get (t := 16) (v := (.int .i64 ((dd.write (((x200.at_.toNat : Nat) : Int) % (4 : Int)) (dbl x200.byte)).2))) rfl)).cons (hF865.get (t := 15) (v := (.pointer (some ⟨g828, 0, none⟩))) rfl)).cons (hF865.get (t := 58) (v := (.bool (!x200.sync))) rfl)).cons (hF865.get (t := 14) (v := (.pointer (some ⟨g216, 0, none⟩))) rfl)).cons (hF865.get (t := 49) (v := (.bool (decide (((k : Nat) : Int) < ((l.length : Nat) : Int))))) rfl)).cons (hF865.get (t := 13) (v := (.int .i64 (k : Nat))) rfl)).cons (hF865.get (t := 12) (v := (.int .i64 room)) rfl)).cons (hF865.get (t := 11) (v := (.slice (some ⟨gw, 0, none⟩) wt.length cw)) rfl)).cons (hF865.get (t := 10) (v := (.pointer (some ⟨g125, 0, none⟩))) rfl)).cons (hF865.get (t := 9) (v := (.pointer (some ⟨g117, 0, none⟩))) rfl)).cons (hF865.get (t := 8) (v := (.pointer (some ⟨g109, 0, none⟩))) rfl)).cons (hF865.get (t := 42) (v := (.bool (decide (((((Dk.new 4).1).stop lf).2 : Int) ≠ (0 : Int))))) rfl)).cons (hF865.get (t := 7) (v := (.int .i64 ((((Dk.new 4).1).stop lf).2))) rfl)).cons (hF865.get (t := 6) (v := (.int .i64 ((Dk.new 4).2))) rfl)).cons (hF865.get (t := 5) (v := (.pointer (some ⟨g43, 0, none⟩))) rfl)).cons (hF865.get (t := 25) (v := (.bool (decide ((40 : Int) < ((l.length : Nat) : Int))))) rfl)).cons (hF865.get (t := 22) (v := (.bool false)) rfl)).cons (hF865.get (t := 4) (v := (.bool false)) rfl)).cons (hF865.get (t := 1) (v := (.int .u8 lf)) rfl)).cons (hF865.get (t := 0) (v := (.slice C l.length f)) rfl)), ((((((Ext.refl w224).trans hx761).trans hx786).trans hx831).trans hx847).grownN hg861 (by omega)), b860, (by omega), (RDk.sub (S := (Clip (Fr (fun b => (Clip (fun b => b ≠ g43 ∧ b ≠ g109 ∧ b ≠ g117 ∧ b ≠ g125 ∧ b ≠ gw) w162) b ∨ (Clip (fun b => w760.heap.size ≤ b) w785) b) w829) w846)) d866 (fun b hb => by simp only [Clip, Fr, Old] at hb ⊢; omega))⟩
          · skip
            refine o_new (fun g => (.pointer (some ⟨g, 0, none⟩))) [(.slice none 0 0), (.slice none 0 0), (.int .i64 0), (.bool false)] 25 hF780 rfl rfl rfl rfl (by kernel_rfl) ?_
            intro g866 w867 a872 hF873 z870 z871 b868 hx869; clear hF780
            have b874 : Blk w867 g43 25 [(.slice A dd.sectors.length c), (.slice B dd.pending.length e), (.int .i64 dd.left), (.bool dd.stopped)] := (b765.ext hx869)
            have b875 : Blk w867 g216 46 [(.bool x200.sync), (.int .u8 (x200.at_.toNat : Nat)), (.int .u8 (x200.byte.toNat : Nat))] := (b766.ext hx869)
            refine ⟨fun _ _ => ⟨((Ext.refl w760).trans hx869), b874, b875⟩, ?_⟩
            refine any_one (i := 7) (by decide +kernel) rfl ?_
            refine o_call hF873 rfl rfl rfl rfl (rn_call (args1 (hF873.get rfl)) rfl (by kernel_rfl)) (double_any x200.byte _) ?_
            rintro _ w880 ⟨v879, rfl, hb878, hx881⟩
            obtain ⟨A876, c877, rfl, -, -⟩ := hb878.form
            have hb878 := hb878.clip
            refine ⟨_, rfl, ?_⟩; intro a882 hF883; clear hF873; have z884 := hx881.size
            have b885 : Blk w880 g43 25 [(.slice A dd.sectors.length c), (.slice B dd.pending.length e), (.int .i64 dd.left), (.bool dd.stopped)] := (b874.ext hx881)
            have b886 : Blk w880 g216 46 [(.bool x200.sync), (.int .u8 (x200.at_.toNat : Nat)), (.int .u8 (x200.byte.toNat : Nat))] := (b875.ext hx881)
            refine ⟨fun _ _ => ⟨(((Ext.refl w760).trans hx869).trans hx881), b885, b886⟩, ?_⟩
            refine any_one (i := 8) (by decide +kernel) rfl ?_
            have d887 := (hf175.pres ((((((Pres.refl w162).ext hx219).grownN hg226 (fun h => by simp only [Clip, Fr, Old] at h; omega)).ext hx761).ext hx869).ext hx881))
            refine o_call hF883 rfl rfl rfl rfl (rn_call (args3 (hF883.get rfl) (hF883.get rfl) (hF883.get rfl)) rfl (by kernel_rfl)) (write_any (S := (fun b => (Clip (fun b => b ≠ g43 ∧ b ≠ g109 ∧ b ≠ g117 ∧ b ≠ g125 ∧ b ≠ gw) w162) b ∨ (Clip (fun b => w867.heap.size ≤ b) w880) b)) _ _ dd _ (dbl x200.byte) _ (d887.sub (fun _ => Or.inl)) (hb878.sub (fun _ => Or.inr))) ?_
            rintro _ w894 ⟨v893, rfl, hd892, hx895⟩
            obtain ⟨A888, c889, B890, e891, rfl, -, -⟩ := hd892.form
            have hd892 := hd892.clip
            refine ⟨_, rfl, ?_⟩; intro a896 hF897; clear hF883; have z898 := hx895.size
            have b899 : Blk w894 g43 25 [(.slice A dd.sectors.length c), (.slice B dd.pending.length e), (.int .i64 dd.left), (.bool dd.stopped)] := (b885.ext hx895)
            have b900 : Blk w894 g216 46 [(.bool x200.sync), (.int .u8 (x200.at_.toNat : Nat)), (.int .u8 (x200.byte.toNat : Nat))] := (b886.ext hx895)
            refine ⟨fun _ _ => ⟨((((Ext.refl w760).trans hx869).trans hx881).trans hx895), b899, b900⟩, ?_⟩
            refine any_pure (i := 9) (v := (.tuple #[(.agg #[(.slice A888 (((dd.write (((x200.at_.toNat : Nat) : Int) % (4 : Int)) (dbl x200.byte)).1).sectors.length) c889), (.slice B890 (((dd.write (((x200.at_.toNat : Nat) : Int) % (4 : Int)) (dbl x200.byte)).1).pending.length) e891), (.int .i64 (((dd.write (((x200.at_.toNat : Nat) : Int) % (4 : Int)) (dbl x200.byte)).1).left)), (.bool (((dd.write (((x200.at_.toNat : Nat) : Int) % (4 : Int)) (dbl x200.byte)).1).stopped))]), (.int .i64 ((dd.write (((x200.at_.toNat : Nat) : Int) % (4 : Int)) (dbl x200.byte)).2))])) hF897 (by decide +kernel) (by decide +kernel) rfl rfl rfl rfl (fun _ _ _ _ h => h) rfl (fun W => (rn_move (hF897.get rfl))) ?_
            intro a901 hF902; clear hF897
            refine any_pure (i := 10) (v := (.agg #[(.slice A888 (((dd.write (((x200.at_.toNat : Nat) : Int) % (4 : Int)) (dbl x200.byte)).1).sectors.length) c889), (.slice B890 (((dd.write (((x200.at_.toNat : Nat) : Int) % (4 : Int)) (dbl x200.byte)).1).pending.length) e891), (.int .i64 (((dd.write (((x200.at_.toNat : Nat) : Int) % (4 : Int)) (dbl x200.byte)).1).left)), (.bool (((dd.write (((x200.at_.toNat : Nat) : Int) % (4 : Int)) (dbl x200.byte)).1).stopped))])) hF902 (by decide +kernel) (by decide +kernel) rfl rfl rfl rfl (fun _ _ _ _ h => h) rfl (fun W => (rn_extract (hF902.get rfl) rfl)) ?_
            intro a903 hF904; clear hF902
            refine any_pure (i := 11) (v := (.int .i64 ((dd.write (((x200.at_.toNat : Nat) : Int) % (4 : Int)) (dbl x200.byte)).2))) hF904 (by decide +kernel) (by decide +kernel) rfl rfl rfl rfl (fun _ _ _ _ h => h) rfl (fun W => (rn_extract (hF904.get rfl) rfl)) ?_
            intro a905 hF906; clear hF904
            refine any_one (i := 13) (by decide +kernel) rfl ?_
            have b910 : Blk w894 g866 25 [(.slice none 0 0), (.slice none 0 0), (.int .i64 0), (.bool false)] := ((b868.ext hx881).ext hx895)
            refine o_store (cells := [(.slice A888 (((dd.write (((x200.at_.toNat : Nat) : Int) % (4 : Int)) (dbl x200.byte)).1).sectors.length) c889), (.slice B890 (((dd.write (((x200.at_.toNat : Nat) : Int) % (4 : Int)) (dbl x200.byte)).1).pending.length) e891), (.int .i64 (((dd.write (((x200.at_.toNat : Nat) : Int) % (4 : Int)) (dbl x200.byte)).1).left)), (.bool (((dd.write (((x200.at_.toNat : Nat) : Int) % (4 : Int)) (dbl x200.byte)).1).stopped))]) hF906 rfl rfl rfl rfl (hF906.get rfl) (hF906.get rfl) b910 (by kernel_rfl : (Try.prog.info? 25).map (·.size) = some 4) rfl (by simp [Value.oneCell']) ?_
            intro w907 b908 hg909; have z911 := hg909.size
            refine ⟨fun h => absurd h (by decide), ?_⟩
            refine any_pure (i := 14) (v := (.int .i64 ((dd.write (((x200.at_.toNat : Nat) : Int) % (4 : Int)) (dbl x200.byte)).2))) hF906 (by decide +kernel) (by decide +kernel) rfl rfl rfl rfl (fun _ _ _ _ h => h) rfl (fun W => (rn_assign (hF906.get rfl))) ?_
            intro a912 hF913; clear hF906
            refine any_nil (by decide +kernel) ?_
            have d914 := (hd892.pres ((Pres.refl w894).grownN hg909 (fun h => by simp only [Clip, Fr, Old] at h; omega)))
            exact ⟨g866, A888, c889, B890, e891, ((((((((((((((((((((hF913.nil.cons (hF913.get (t := 16) (v := (.int .i64 ((dd.write (((x200.at_.toNat : Nat) : Int) % (4 : Int)) (dbl x200.byte)).2))) rfl)).cons (hF913.get (t := 15) (v := (.pointer (some ⟨g866, 0, none⟩))) rfl)).cons (hF913.get (t := 58) (v := (.bool (!x200.sync))) rfl)).cons (hF913.get (t := 14) (v := (.pointer (some ⟨g216, 0, none⟩))) rfl)).cons (hF913.get (t := 49) (v := (.bool (decide (((k : Nat) : Int) < ((l.length : Nat) : Int))))) rfl)).cons (hF913.get (t := 13) (v := (.int .i64 (k : Nat))) rfl)).cons (hF913.get (t := 12) (v := (.int .i64 room)) rfl)).cons (hF913.get (t := 11) (v := (.slice (some ⟨gw, 0, none⟩) wt.length cw)) rfl)).cons (hF913.get (t := 10) (v := (.pointer (some ⟨g125, 0, none⟩))) rfl)).cons (hF913.get (t := 9) (v := (.pointer (some ⟨g117, 0, none⟩))) rfl)).cons (hF913.get (t := 8) (v := (.pointer (some ⟨g109, 0, none⟩))) rfl)).cons (hF913.get (t := 42) (v := (.bool (decide (((((Dk.new 4).1).stop lf).2 : Int) ≠ (0 : Int))))) rfl)).cons (hF913.get (t := 7) (v := (.int .i64 ((((Dk.new 4).1).stop lf).2))) rfl)).cons (hF913.get (t := 6) (v := (.int .i64 ((Dk.new 4).2))) rfl)).cons (hF913.get (t := 5) (v := (.pointer (some ⟨g43, 0, none⟩))) rfl)).cons (hF913.get (t := 25) (v := (.bool (decide ((40 : Int) < ((l.length : Nat) : Int))))) rfl)).cons (hF913.get (t := 22) (v := (.bool false)) rfl)).cons (hF913.get (t := 4) (v := (.bool false)) rfl)).cons (hF913.get (t := 1) (v := (.int .u8 lf)) rfl)).cons (hF913.get (t := 0) (v := (.slice C l.length f)) rfl)), ((((((Ext.refl w224).trans hx761).trans hx869).trans hx881).trans hx895).grownN hg909 (by omega)), b908, (by omega), (RDk.sub (S := (Clip (Fr (fun b => (Clip (fun b => b ≠ g43 ∧ b ≠ g109 ∧ b ≠ g117 ∧ b ≠ g125 ∧ b ≠ gw) w162) b ∨ (Clip (fun b => w867.heap.size ≤ b) w880) b) w880) w894)) d914 (fun b hb => by simp only [Clip, Fr, Old] at hb ⊢; omega))⟩
        · rintro a915 w916 ⟨xg812, xA793, xc794, xB795, xe796, hF917, hx918, b919, z921, f920⟩
          have z922 := hx918.size
          clear hF236
          have z923 := b919.lt
          refine wp_seq_k (fun K924 hK924 => ?_)
          refine wp_seq_k (fun K925 hK925 => ?_)
          refine wp_region_lit ?_
          refine wpl_op (i := 0) rfl (o_val (v := (.int .i64 ((dd.write (((x200.at_.toNat : Nat) : Int) % (4 : Int)) (dbl x200.byte)).2))) hF917 rfl rfl rfl rfl (rn_move (hF917.get rfl)) ?_)
          intro a926 hF927; clear hF917
          refine wpl_op (i := 1) rfl (o_val (v := (.bool (decide (((dd.write (((x200.at_.toNat : Nat) : Int) % (4 : Int)) (dbl x200.byte)).2 : Int) ≠ (0 : Int))))) hF927 rfl rfl rfl rfl (rn_neq (hF927.get rfl) rfl) ?_)
          intro a928 hF929; clear hF927
          refine wpList_nil ?_
          refine hK925 _ _ ?_
          clear hK925
          obtain ⟨hw0, hhW⟩ := hist_writeT hp166 x200 (by omega)
          refine wp_cond_false (c_false hF929 rfl ((decide_eq_false (by rw [hw0]; simp)) : decide (((dd.write (((x200.at_.toNat : Nat) : Int) % (4 : Int)) (dbl x200.byte)).2 : Int) ≠ (0 : Int)) = false)) ?_
          refine wp_skip ?_
          refine hK924 _ _ ?_
          clear hK924
          refine wp_seq_k (fun K931 hK931 => ?_)
          refine wp_region_lit ?_
          refine wpl_op (i := 0) rfl (o_val (v := (.agg #[(.slice xA793 (((dd.write (((x200.at_.toNat : Nat) : Int) % (4 : Int)) (dbl x200.byte)).1).sectors.length) xc794), (.slice xB795 (((dd.write (((x200.at_.toNat : Nat) : Int) % (4 : Int)) (dbl x200.byte)).1).pending.length) xe796), (.int .i64 (((dd.write (((x200.at_.toNat : Nat) : Int) % (4 : Int)) (dbl x200.byte)).1).left)), (.bool (((dd.write (((x200.at_.toNat : Nat) : Int) % (4 : Int)) (dbl x200.byte)).1).stopped))])) hF929 rfl rfl rfl rfl (rn_loadBlk (hF929.get rfl) b919 Try.underlying25 rfl (by kernel_rfl : (Try.prog.info? 25).map (·.size) = some 4)) ?_)
          intro a932 hF933; clear hF929
          have b937 : Blk w916 g43 25 [(.slice A dd.sectors.length c), (.slice B dd.pending.length e), (.int .i64 dd.left), (.bool dd.stopped)] := (((b170.ext hx219).grownN hg226 (by omega)).ext hx918)
          refine wpl_op (i := 1) rfl (o_store (cells := [(.slice xA793 (((dd.write (((x200.at_.toNat : Nat) : Int) % (4 : Int)) (dbl x200.byte)).1).sectors.length) xc794), (.slice xB795 (((dd.write (((x200.at_.toNat : Nat) : Int) % (4 : Int)) (dbl x200.byte)).1).pending.length) xe796), (.int .i64 (((dd.write (((x200.at_.toNat : Nat) : Int) % (4 : Int)) (dbl x200.byte)).1).left)), (.bool (((dd.write (((x200.at_.toNat : Nat) : Int) % (4 : Int)) (dbl x200.byte)).1).stopped))]) hF933 rfl rfl rfl rfl (hF933.get rfl) (hF933.get rfl) b937 (by kernel_rfl : (Try.prog.info? 25).map (·.size) = some 4) rfl (by simp [Value.oneCell']) ?_)
          intro w934 b935 hg936; have z938 := hg936.size
          refine wpList_nil ?_
          refine hK931 _ _ ?_
          clear hK931
          refine wp_seq_k (fun K939 hK939 => ?_)
          refine wp_region_lit ?_
          refine wpl_op (i := 0) rfl (o_val (v := (.pointer (some ⟨g216, 1, none⟩))) hF933 rfl rfl rfl rfl (rn_field Try.underlying46 rfl (by kernel_rfl) (hF933.get rfl) rfl) ?_)
          intro a940 hF941; clear hF933
          have b942 : Blk w934 g216 46 [(.bool x200.sync), (.int .u8 (x200.at_.toNat : Nat)), (.int .u8 (x200.byte.toNat : Nat))] := ((b225.ext hx918).grownN hg936 (by omega))
          refine wpl_op (i := 1) rfl (o_val (v := (.int .u8 (x200.at_.toNat : Nat))) hF941 rfl rfl rfl rfl (rn_load (isAgg_no Try.underlying5 rfl) (hF941.get rfl) (b942.rule.1 1)) ?_)
          intro a943 hF944; clear hF941
          refine wpl_op (i := 2) rfl (o_val (v := (.int .u8 (((x200.at_.toNat : Nat) : Int) % (4 : Int)))) hF944 rfl rfl rfl rfl (rn_rem (hF944.get rfl) rfl (by omega : (0 : Int) ≤ (x200.at_.toNat : Nat)) (by omega : (0 : Int) < 4)) ?_)
          intro a945 hF946; clear hF944
          refine wpl_op (i := 3) rfl (o_val (v := (.pointer (some ⟨g216, 2, none⟩))) hF946 rfl rfl rfl rfl (rn_field Try.underlying46 rfl (by kernel_rfl) (hF946.get rfl) rfl) ?_)
          intro a947 hF948; clear hF946
          refine wpl_op (i := 4) rfl (o_val (v := (.int .u8 (x200.byte.toNat : Nat))) hF948 rfl rfl rfl rfl (rn_load (isAgg_no Try.underlying5 rfl) (hF948.get rfl) (b942.rule.1 2)) ?_)
          intro a949 hF950; clear hF948
          refine wpl_op (i := 5) rfl (o_val (v := (.pointer (some ⟨g109, 0 + ((((x200.at_.toNat : Nat) : Int) % (4 : Int)) : Int).toNat, none⟩))) hF950 rfl rfl rfl rfl (rn_indexArr Try.underlying44 (by kernel_rfl : (Try.prog.info? 5).map (·.size) = some 1) (hF950.get rfl) (hF950.get rfl) (by omega : (0 : Int) ≤ (((x200.at_.toNat : Nat) : Int) % (4 : Int))) (by omega : ((((x200.at_.toNat : Nat) : Int) % (4 : Int)) : Int) < ((4 : Nat) : Int))) ?_)
          intro a951 hF952; clear hF950
          have b956 : Blk w934 g109 44 (byteVals la) := ((((b171.ext hx219).grownN hg226 (by omega)).ext hx918).grownN hg936 (by omega))
          refine wpl_op (i := 6) rfl (o_store1 (new := (byteVals (la.set (ix x200) x200.byte))) hF952 rfl rfl rfl rfl (hF952.get rfl) (hF952.get rfl) b956 (by kernel_rfl : (Try.prog.info? 5).map (·.size) = some 1) (by rw [byteVals_len hp166.la4]; omega) rfl (byteVals_set (by unfold ix; omega)) ?_)
          intro w953 b954 hg955; have z957 := hg955.size
          refine wpList_nil ?_
          refine hK939 _ _ ?_
          clear hK939
          have hF958 := (((((((((((((((((((((hF952.nil.cons (hF952.get (t := 72) (v := (.bool (decide (((dd.write (((x200.at_.toNat : Nat) : Int) % (4 : Int)) (dbl x200.byte)).2 : Int) ≠ (0 : Int))))) rfl)).cons (hF952.get (t := 16) (v := (.int .i64 ((dd.write (((x200.at_.toNat : Nat) : Int) % (4 : Int)) (dbl x200.byte)).2))) rfl)).cons (hF952.get (t := 15) (v := (.pointer (some ⟨xg812, 0, none⟩))) rfl)).cons (hF952.get (t := 58) (v := (.bool (!x200.sync))) rfl)).cons (hF952.get (t := 14) (v := (.pointer (some ⟨g216, 0, none⟩))) rfl)).cons (hF952.get (t := 49) (v := (.bool (decide (((k : Nat) : Int) < ((l.length : Nat) : Int))))) rfl)).cons (hF952.get (t := 13) (v := (.int .i64 (k : Nat))) rfl)).cons (hF952.get (t := 12) (v := (.int .i64 room)) rfl)).cons (hF952.get (t := 11) (v := (.slice (some ⟨gw, 0, none⟩) wt.length cw)) rfl)).cons (hF952.get (t := 10) (v := (.pointer (some ⟨g125, 0, none⟩))) rfl)).cons (hF952.get (t := 9) (v := (.pointer (some ⟨g117, 0, none⟩))) rfl)).cons (hF952.get (t := 8) (v := (.pointer (some ⟨g109, 0, none⟩))) rfl)).cons (hF952.get (t := 42) (v := (.bool (decide (((((Dk.new 4).1).stop lf).2 : Int) ≠ (0 : Int))))) rfl)).cons (hF952.get (t := 7) (v := (.int .i64 ((((Dk.new 4).1).stop lf).2))) rfl)).cons (hF952.get (t := 6) (v := (.int .i64 ((Dk.new 4).2))) rfl)).cons (hF952.get (t := 5) (v := (.pointer (some ⟨g43, 0, none⟩))) rfl)).cons (hF952.get (t := 25) (v := (.bool (decide ((40 : Int) < ((l.length : Nat) : Int))))) rfl)).cons (hF952.get (t := 22) (v := (.bool false)) rfl)).cons (hF952.get (t := 4) (v := (.bool false)) rfl)).cons (hF952.get (t := 1) (v := (.int .u8 lf)) rfl)).cons (hF952.get (t := 0) (v := (.slice C l.length f)) rfl))
          clear hF952
          refine wp_region_lit ?_
          refine wpl_op (i := 0) rfl (o_val (v := (.slice (some ⟨gw, 0, none⟩) wt.length cw)) hF958 rfl rfl rfl rfl (rn_move (hF958.get rfl)) ?_)
          intro a959 hF960; clear hF958
          have b961 : Blk w953 g216 46 [(.bool x200.sync), (.int .u8 (x200.at_.toNat : Nat)), (.int .u8 (x200.byte.toNat : Nat))] := (b942.grownN hg955 (by omega))
          refine wpl_op (i := 1) rfl (o_val (v := (.agg #[(.bool x200.sync), (.int .u8 (x200.at_.toNat : Nat)), (.int .u8 (x200.byte.toNat : Nat))])) hF960 rfl rfl rfl rfl (rn_loadBlk (hF960.get rfl) b961 Try.underlying46 rfl (by kernel_rfl : (Try.prog.info? 46).map (·.size) = some 3)) ?_)
          intro a962 hF963; clear hF960
          refine wpl_op (i := 2) rfl (o_new (fun g => (.slice (some ⟨g, 0, none⟩) 1 1)) [(.bool x200.sync), (.int .u8 (x200.at_.toNat : Nat)), (.int .u8 (x200.byte.toNat : Nat))] 46 hF963 rfl rfl rfl rfl (rn_buildSlice (parts1 (hF963.get rfl)) (by kernel_rfl)) ?_)
          intro g964 w965 a970 hF971 z968 z969 b966 hx967; clear hF963
          have r977 := (own_ext (own_grownE (own_grownE (own_ext (own_grownE (own_ext r174 hx219) hg226 (by omega)) hx918) hg936 (by omega)) hg955 (by omega)) hx967)
          refine wpl_op (i := 3) rfl (o_appE (n := wt.length) (xs := acsCells wt) (ys := acCells x200) (base := w.heap.size) elActs hF971 rfl rfl rfl rfl rfl (hF971.get rfl) (hF971.get rfl) r977 (Blk.cel (m := 1) (cs := acCells x200) b966 rfl (by simp [acCells, Value.oneCell'])) (by omega) (by omega) (by omega) ?_)
          intro v980 w972 a978 hF979 r973 hg974 ho985
          rw [← acs_snoc, show wt.length + 1 = (wt ++ [x200]).length by simp] at r973
          obtain ⟨g975, c976, rfl, hz981, hz982, hz983, hz984⟩ := own_form r973 (by simp)
          clear hF971
          have ho985 : g975 = gw ∨ g975 = w965.heap.size := ho985.imp (fun h => Option.some.inj h) (fun h => Option.some.inj h)
          have hg974 : World.grownBy w965 w972 (some gw) := hg974
          have z986 := hg974.size
          refine wpl_op (i := 4) rfl (o_val (v := (.slice (some ⟨g975, 0, none⟩) ((wt ++ [x200]).length) c976)) hF979 rfl rfl rfl rfl (rn_assign (hF979.get rfl)) ?_)
          intro a987 hF988; clear hF979
          refine wpList_nil ?_
          refine hK229 _ _ ?_
          clear hK229
          have hF989 := (((((((((((((((((((((hF988.nil.cons (hF988.get (t := 72) (v := (.bool (decide (((dd.write (((x200.at_.toNat : Nat) : Int) % (4 : Int)) (dbl x200.byte)).2 : Int) ≠ (0 : Int))))) rfl)).cons (hF988.get (t := 16) (v := (.int .i64 ((dd.write (((x200.at_.toNat : Nat) : Int) % (4 : Int)) (dbl x200.byte)).2))) rfl)).cons (hF988.get (t := 15) (v := (.pointer (some ⟨xg812, 0, none⟩))) rfl)).cons (hF988.get (t := 58) (v := (.bool (!x200.sync))) rfl)).cons (hF988.get (t := 14) (v := (.pointer (some ⟨g216, 0, none⟩))) rfl)).cons (hF988.get (t := 49) (v := (.bool (decide (((k : Nat) : Int) < ((l.length : Nat) : Int))))) rfl)).cons (hF988.get (t := 13) (v := (.int .i64 (k : Nat))) rfl)).cons (hF988.get (t := 12) (v := (.int .i64 room)) rfl)).cons (hF988.get (t := 11) (v := (.slice (some ⟨g975, 0, none⟩) ((wt ++ [x200]).length) c976)) rfl)).cons (hF988.get (t := 10) (v := (.pointer (some ⟨g125, 0, none⟩))) rfl)).cons (hF988.get (t := 9) (v := (.pointer (some ⟨g117, 0, none⟩))) rfl)).cons (hF988.get (t := 8) (v := (.pointer (some ⟨g109, 0, none⟩))) rfl)).cons (hF988.get (t := 42) (v := (.bool (decide (((((Dk.new 4).1).stop lf).2 : Int) ≠ (0 : Int))))) rfl)).cons (hF988.get (t := 7) (v := (.int .i64 ((((Dk.new 4).1).stop lf).2))) rfl)).cons (hF988.get (t := 6) (v := (.int .i64 ((Dk.new 4).2))) rfl)).cons (hF988.get (t := 5) (v := (.pointer (some ⟨g43, 0, none⟩))) rfl)).cons (hF988.get (t := 25) (v := (.bool (decide ((40 : Int) < ((l.length : Nat) : Int))))) rfl)).cons (hF988.get (t := 22) (v := (.bool false)) rfl)).cons (hF988.get (t := 4) (v := (.bool false)) rfl)).cons (hF988.get (t := 1) (v := (.int .u8 lf)) rfl)).cons (hF988.get (t := 0) (v := (.slice C l.length f)) rfl))
          clear hF988
          refine wp_seq_k (fun K990 hK990 => ?_)
          refine wp_region_lit ?_
          have b991 : Blk w972 g43 25 [(.slice xA793 (((dd.write (((x200.at_.toNat : Nat) : Int) % (4 : Int)) (dbl x200.byte)).1).sectors.length) xc794), (.slice xB795 (((dd.write (((x200.at_.toNat : Nat) : Int) % (4 : Int)) (dbl x200.byte)).1).pending.length) xe796), (.int .i64 (((dd.write (((x200.at_.toNat : Nat) : Int) % (4 : Int)) (dbl x200.byte)).1).left)), (.bool (((dd.write (((x200.at_.toNat : Nat) : Int) % (4 : Int)) (dbl x200.byte)).1).stopped))] := (((b935.grownN hg955 (by omega)).ext hx967).grownN hg974 (by omega))
          refine wpl_op (i := 0) rfl (o_val (v := (.agg #[(.slice xA793 (((dd.write (((x200.at_.toNat : Nat) : Int) % (4 : Int)) (dbl x200.byte)).1).sectors.length) xc794), (.slice xB795 (((dd.write (((x200.at_.toNat : Nat) : Int) % (4 : Int)) (dbl x200.byte)).1).pending.length) xe796), (.int .i64 (((dd.write (((x200.at_.toNat : Nat) : Int) % (4 : Int)) (dbl x200.byte)).1).left)), (.bool (((dd.write (((x200.at_.toNat : Nat) : Int) % (4 : Int)) (dbl x200.byte)).1).stopped))])) hF989 rfl rfl rfl rfl (rn_loadBlk (hF989.get rfl) b991 Try.underlying25 rfl (by kernel_rfl : (Try.prog.info? 25).map (·.size) = some 4)) ?_)
          intro a992 hF993; clear hF989
          have b994 : Blk w972 g109 44 (byteVals (la.set (ix x200) x200.byte)) := ((b954.ext hx967).grownN hg974 (by omega))
          refine wpl_op (i := 1) rfl (o_val (v := (.agg (byteVals (la.set (ix x200) x200.byte)).toArray)) hF993 rfl rfl rfl rfl (rn_loadBlk (hF993.get rfl) b994 Try.underlying44 rfl ((by kernel_rfl : (Try.prog.info? 44).map (·.size) = some 4).trans (congrArg some (byteVals_len (List.length_set.trans hp166.la4)).symm))) ?_)
          intro a995 hF996; clear hF993
          refine wpl_op (i := 2) rfl (o_val (v := (.agg (byteVals (la.set (ix x200) x200.byte)).toArray)) hF996 rfl rfl rfl rfl (rn_loadBlk (hF996.get rfl) b994 Try.underlying44 rfl ((by kernel_rfl : (Try.prog.info? 44).map (·.size) = some 4).trans (congrArg some (byteVals_len (List.length_set.trans hp166.la4)).symm))) ?_)
          intro a997 hF998; clear hF996
          have d999 := (f920.pres (((((Pres.refl w916).grownN hg936 (fun h => by simp only [Clip, Fr, Old] at h; omega)).grownN hg955 (fun h => by simp only [Clip, Fr, Old] at h; omega)).ext hx967).grownN hg974 (fun h => by simp only [Clip, Fr, Old] at h; omega)))
          refine wpl_op (i := 3) rfl (o_call hF998 rfl rfl rfl rfl (rn_call (args3 (hF998.get rfl) (hF998.get rfl) (hF998.get rfl)) rfl (by kernel_rfl)) (holds_any (S := (Clip (fun b => b ≠ g43 ∧ b ≠ g216 ∧ b ≠ g109 ∧ b ≠ g125 ∧ b ≠ g117 ∧ b ≠ xg812 ∧ b ≠ gw) w916)) _ ((dd.write (((x200.at_.toNat : Nat) : Int) % (4 : Int)) (dbl x200.byte)).1) (la.set (ix x200) x200.byte) (la.set (ix x200) x200.byte) _ d999 (List.length_set.trans hp166.la4) (List.length_set.trans hp166.la4) hhW.hb) ?_)
          rintro _ w1000 ⟨rfl, hx1001⟩
          refine ⟨_, rfl, ?_⟩; intro a1002 hF1003; clear hF998; have z1004 := hx1001.size
          refine wpl_op (i := 4) rfl (o_val (v := (.bool false)) hF1003 rfl rfl rfl rfl (rn_not' (hF1003.get rfl) rfl) ?_)
          intro a1005 hF1006; clear hF1003
          refine wpList_nil ?_
          refine hK990 _ _ ?_
          clear hK990
          have hF1007 := ((((((((((((((((((((((hF1006.nil.cons (hF1006.get (t := 157) (v := (.bool false)) rfl)).cons (hF1006.get (t := 72) (v := (.bool (decide (((dd.write (((x200.at_.toNat : Nat) : Int) % (4 : Int)) (dbl x200.byte)).2 : Int) ≠ (0 : Int))))) rfl)).cons (hF1006.get (t := 16) (v := (.int .i64 ((dd.write (((x200.at_.toNat : Nat) : Int) % (4 : Int)) (dbl x200.byte)).2))) rfl)).cons (hF1006.get (t := 15) (v := (.pointer (some ⟨xg812, 0, none⟩))) rfl)).cons (hF1006.get (t := 58) (v := (.bool (!x200.sync))) rfl)).cons (hF1006.get (t := 14) (v := (.pointer (some ⟨g216, 0, none⟩))) rfl)).cons (hF1006.get (t := 49) (v := (.bool (decide (((k : Nat) : Int) < ((l.length : Nat) : Int))))) rfl)).cons (hF1006.get (t := 13) (v := (.int .i64 (k : Nat))) rfl)).cons (hF1006.get (t := 12) (v := (.int .i64 room)) rfl)).cons (hF1006.get (t := 11) (v := (.slice (some ⟨g975, 0, none⟩) ((wt ++ [x200]).length) c976)) rfl)).cons (hF1006.get (t := 10) (v := (.pointer (some ⟨g125, 0, none⟩))) rfl)).cons (hF1006.get (t := 9) (v := (.pointer (some ⟨g117, 0, none⟩))) rfl)).cons (hF1006.get (t := 8) (v := (.pointer (some ⟨g109, 0, none⟩))) rfl)).cons (hF1006.get (t := 42) (v := (.bool (decide (((((Dk.new 4).1).stop lf).2 : Int) ≠ (0 : Int))))) rfl)).cons (hF1006.get (t := 7) (v := (.int .i64 ((((Dk.new 4).1).stop lf).2))) rfl)).cons (hF1006.get (t := 6) (v := (.int .i64 ((Dk.new 4).2))) rfl)).cons (hF1006.get (t := 5) (v := (.pointer (some ⟨g43, 0, none⟩))) rfl)).cons (hF1006.get (t := 25) (v := (.bool (decide ((40 : Int) < ((l.length : Nat) : Int))))) rfl)).cons (hF1006.get (t := 22) (v := (.bool false)) rfl)).cons (hF1006.get (t := 4) (v := (.bool false)) rfl)).cons (hF1006.get (t := 1) (v := (.int .u8 lf)) rfl)).cons (hF1006.get (t := 0) (v := (.slice C l.length f)) rfl))
          clear hF1006
          refine wp_cond_false (c_false hF1007 rfl rfl) ?_
          refine wp_skip ?_
          refine hK194 _ _ ?_
          clear hK194
          refine wp_region_lit ?_
          refine wpl_op (i := 0) rfl (o_val (v := (.int .i64 (k : Nat))) hF1007 rfl rfl rfl rfl (rn_move (hF1007.get rfl)) ?_)
          intro a1008 hF1009; clear hF1007
          refine wpl_op (i := 1) rfl (o_val (v := (.int .i64 ((k : Nat) + 1))) hF1009 rfl rfl rfl rfl (rn_add (hF1009.get rfl) rfl (by omega) (by omega)) ?_)
          intro a1010 hF1011; clear hF1009
          refine wpl_op (i := 2) rfl (o_val (v := (.int .i64 ((k : Nat) + 1))) hF1011 rfl rfl rfl rfl (rn_assign (hF1011.get rfl)) ?_)
          intro a1012 hF1013; clear hF1011
          refine wpList_nil ?_
          have d1014 := (f920.pres ((((((Pres.refl w916).grownN hg936 (fun h => by simp only [Clip, Fr, Old] at h; omega)).grownN hg955 (fun h => by simp only [Clip, Fr, Old] at h; omega)).ext hx967).grownN hg974 (fun h => by simp only [Clip, Fr, Old] at h; omega)).ext hx1001))
          have b1015 : Blk w1000 g43 25 [(.slice xA793 (((dd.write (((x200.at_.toNat : Nat) : Int) % (4 : Int)) (dbl x200.byte)).1).sectors.length) xc794), (.slice xB795 (((dd.write (((x200.at_.toNat : Nat) : Int) % (4 : Int)) (dbl x200.byte)).1).pending.length) xe796), (.int .i64 (((dd.write (((x200.at_.toNat : Nat) : Int) % (4 : Int)) (dbl x200.byte)).1).left)), (.bool (((dd.write (((x200.at_.toNat : Nat) : Int) % (4 : Int)) (dbl x200.byte)).1).stopped))] := (b991.ext hx1001)
          have b1016 : Blk w1000 g109 44 (byteVals (la.set (ix x200) x200.byte)) := (b994.ext hx1001)
          have b1017 : Blk w1000 g117 44 (byteVals fa) := ((((((((b172.ext hx219).grownN hg226 (by omega)).ext hx918).grownN hg936 (by omega)).grownN hg955 (by omega)).ext hx967).grownN hg974 (by omega)).ext hx1001)
          have b1018 : Blk w1000 g125 44 (byteVals sa) := ((((((((b173.ext hx219).grownN hg226 (by omega)).ext hx918).grownN hg936 (by omega)).grownN hg955 (by omega)).ext hx967).grownN hg974 (by omega)).ext hx1001)
          have r1019 := (own_ext r973 hx1001)
          refine ⟨⟨k + 1, (dd.write (((x200.at_.toNat : Nat) : Int) % (4 : Int)) (dbl x200.byte)).1, xA793, xc794, xB795, xe796, la.set (ix x200) x200.byte, fa, sa, wt ++ [x200], room, g975, c976, (((((((((((((((hF1013.nil.cons (q_get hF1013 (t := 13) rfl (by first | rfl | (congr 1; omega) | simp))).cons (q_get hF1013 (t := 12) rfl (by first | rfl | (congr 1; omega) | simp))).cons (q_get hF1013 (t := 11) rfl (by first | rfl | (congr 1; omega) | simp))).cons (q_get hF1013 (t := 10) rfl rfl)).cons (q_get hF1013 (t := 9) rfl rfl)).cons (q_get hF1013 (t := 8) rfl rfl)).cons (q_get hF1013 (t := 42) rfl rfl)).cons (q_get hF1013 (t := 7) rfl rfl)).cons (q_get hF1013 (t := 6) rfl rfl)).cons (q_get hF1013 (t := 5) rfl rfl)).cons (q_get hF1013 (t := 25) rfl rfl)).cons (q_get hF1013 (t := 22) rfl rfl)).cons (q_get hF1013 (t := 4) rfl rfl)).cons (q_get hF1013 (t := 1) rfl rfl)).cons (q_get hF1013 (t := 0) rfl rfl)), (by omega), hhW, (by first | (simp; done) | (simp; omega)), (by omega), (by omega), ((((((((((Ext.refl w).trans hx164).trans hx219).grownN hg226 (by omega)).trans hx918).grownN hg936 (by omega)).grownN hg955 (by omega)).trans hx967).grownN hg974 (by omega)).trans hx1001), b1015, b1016, b1017, b1018, r1019, (RDk.sub (S := (Clip (fun b => b ≠ g43 ∧ b ≠ g216 ∧ b ≠ g109 ∧ b ≠ g125 ∧ b ≠ g117 ∧ b ≠ xg812 ∧ b ≠ gw) w916)) d1014 (fun b hb => by simp only [Clip, Fr, Old] at hb ⊢; omega))⟩, ?_⟩
          rw [hF1013.get (t := 13) rfl, hL176.get (t := 13) rfl]; simp [intOf]; omega
    · skip
      refine wp_cond_false (c_false hF192 rfl (decide_eq_false hc193)) ?_
      refine wp_exit ?_
      refine exit_then ?_
      refine exit_then ?_
      refine exit_here ?_
      refine hK151 _ _ ?_
      clear hK151
      refine wp_seq_k (fun K1020 hK1020 => ?_)
      have hx1022 : ∃ W, w162.drew = W ∧ Ext w162 W := ⟨_, rfl, (Ext.refl _).drew⟩
      obtain ⟨w1021, e1023, hx1022⟩ := hx1022
      have z1024 := hx1022.size
      refine any_start (fun W => Ext w1021 W ∧ Blk W g43 25 [(.slice A dd.sectors.length c), (.slice B dd.pending.length e), (.int .i64 dd.left), (.bool dd.stopped)] ∧ Blk W g117 44 (byteVals fa) ∧ Blk W g125 44 (byteVals sa)) (fun i => false) 6 #[false, false, false, false, false, false] rfl rfl rfl ?_
      rw [e1023]; clear e1023
      have b1026 : Blk w1021 g43 25 [(.slice A dd.sectors.length c), (.slice B dd.pending.length e), (.int .i64 dd.left), (.bool dd.stopped)] := (b170.ext hx1022)
      have b1027 : Blk w1021 g117 44 (byteVals fa) := (b172.ext hx1022)
      have b1028 : Blk w1021 g125 44 (byteVals sa) := (b173.ext hx1022)
      have hS1025 : Ext w1021 w1021 ∧ Blk w1021 g43 25 [(.slice A dd.sectors.length c), (.slice B dd.pending.length e), (.int .i64 dd.left), (.bool dd.stopped)] ∧ Blk w1021 g117 44 (byteVals fa) ∧ Blk w1021 g125 44 (byteVals sa) := ⟨(Ext.refl w1021), b1026, b1027, b1028⟩
      refine any_val (i := 0) (v := (.agg #[(.slice A dd.sectors.length c), (.slice B dd.pending.length e), (.int .i64 dd.left), (.bool dd.stopped)])) hF192 (by decide +kernel) (by decide +kernel) rfl rfl rfl rfl (fun _ _ _ _ h => h) rfl hS1025 (fun W hW => (rn_loadBlk (hF192.get rfl) hW.2.1 Try.underlying25 rfl (by kernel_rfl : (Try.prog.info? 25).map (·.size) = some 4))) ?_
      intro a1029 hF1030; clear hF192
      refine any_val (i := 2) (v := (.agg (byteVals fa).toArray)) hF1030 (by decide +kernel) (by decide +kernel) rfl rfl rfl rfl (fun _ _ _ _ h => h) rfl hS1025 (fun W hW => (rn_loadBlk (hF1030.get rfl) hW.2.2.1 Try.underlying44 rfl ((by kernel_rfl : (Try.prog.info? 44).map (·.size) = some 4).trans (congrArg some (byteVals_len hp166.fa4).symm)))) ?_
      intro a1031 hF1032; clear hF1030
      refine any_val (i := 3) (v := (.agg (byteVals sa).toArray)) hF1032 (by decide +kernel) (by decide +kernel) rfl rfl rfl rfl (fun _ _ _ _ h => h) rfl hS1025 (fun W hW => (rn_loadBlk (hF1032.get rfl) hW.2.2.2 Try.underlying44 rfl ((by kernel_rfl : (Try.prog.info? 44).map (·.size) = some 4).trans (congrArg some (byteVals_len hp166.sa4).symm)))) ?_
      intro a1033 hF1034; clear hF1032
      refine any_one (i := 1) (by decide +kernel) rfl ?_
      have d1035 := (hf175.ext hx1022)
      refine o_call hF1034 rfl rfl rfl rfl (rn_call (args1 (hF1034.get rfl)) rfl (by kernel_rfl)) (restart_any (S := (Clip (fun b => b ≠ g43 ∧ b ≠ g109 ∧ b ≠ g117 ∧ b ≠ g125 ∧ b ≠ gw) w162)) _ dd _ d1035) ?_
      rintro _ w1042 ⟨v1041, rfl, hd1040, hx1043⟩
      obtain ⟨A1036, c1037, B1038, e1039, rfl, -, -⟩ := hd1040.form
      have hd1040 := hd1040.clip
      refine ⟨_, rfl, ?_⟩; intro a1044 hF1045; clear hF1034; have z1046 := hx1043.size
      have b1047 : Blk w1042 g43 25 [(.slice A dd.sectors.length c), (.slice B dd.pending.length e), (.int .i64 dd.left), (.bool dd.stopped)] := (b1026.ext hx1043)
      have b1048 : Blk w1042 g117 44 (byteVals fa) := (b1027.ext hx1043)
      have b1049 : Blk w1042 g125 44 (byteVals sa) := (b1028.ext hx1043)
      refine ⟨fun _ _ => ⟨((Ext.refl w1021).trans hx1043), b1047, b1048, b1049⟩, ?_⟩
      refine any_one (i := 4) (by decide +kernel) rfl ?_
      refine o_call hF1045 rfl rfl rfl rfl (rn_call (args3 (hF1045.get rfl) (hF1045.get rfl) (hF1045.get rfl)) rfl (by kernel_rfl)) (holds_any (S := (Clip (Fr (Clip (fun b => b ≠ g43 ∧ b ≠ g109 ∧ b ≠ g117 ∧ b ≠ g125 ∧ b ≠ gw) w162) w1021) w1042)) _ dd.restart fa sa _ hd1040 hp166.fa4 hp166.sa4 (restart_hb hp166.secs)) ?_
      rintro _ w1050 ⟨rfl, hx1051⟩
      refine ⟨_, rfl, ?_⟩; intro a1052 hF1053; clear hF1045; have z1054 := hx1051.size
      have b1055 : Blk w1050 g43 25 [(.slice A dd.sectors.length c), (.slice B dd.pending.length e), (.int .i64 dd.left), (.bool dd.stopped)] := (b1047.ext hx1051)
      have b1056 : Blk w1050 g117 44 (byteVals fa) := (b1048.ext hx1051)
      have b1057 : Blk w1050 g125 44 (byteVals sa) := (b1049.ext hx1051)
      refine ⟨fun _ _ => ⟨(((Ext.refl w1021).trans hx1043).trans hx1051), b1055, b1056, b1057⟩, ?_⟩
      refine any_pure (i := 5) (v := (.bool true)) hF1053 (by decide +kernel) (by decide +kernel) rfl rfl rfl rfl (fun _ _ _ _ h => h) rfl (fun W => (rn_assign (hF1053.get rfl))) ?_
      intro a1058 hF1059; clear hF1053
      refine any_nil (by decide +kernel) ?_
      refine hK1020 _ _ ?_
      clear hK1020
      have hF1060 := ((((((((((((((((hF1059.nil.cons (hF1059.get (t := 49) (v := (.bool (decide (((k : Nat) : Int) < ((l.length : Nat) : Int))))) rfl)).cons (hF1059.get (t := 13) (v := (.int .i64 (k : Nat))) rfl)).cons (hF1059.get (t := 12) (v := (.int .i64 room)) rfl)).cons (hF1059.get (t := 11) (v := (.slice (some ⟨gw, 0, none⟩) wt.length cw)) rfl)).cons (hF1059.get (t := 10) (v := (.pointer (some ⟨g125, 0, none⟩))) rfl)).cons (hF1059.get (t := 9) (v := (.pointer (some ⟨g117, 0, none⟩))) rfl)).cons (hF1059.get (t := 8) (v := (.pointer (some ⟨g109, 0, none⟩))) rfl)).cons (hF1059.get (t := 42) (v := (.bool (decide (((((Dk.new 4).1).stop lf).2 : Int) ≠ (0 : Int))))) rfl)).cons (hF1059.get (t := 7) (v := (.int .i64 ((((Dk.new 4).1).stop lf).2))) rfl)).cons (hF1059.get (t := 6) (v := (.int .i64 ((Dk.new 4).2))) rfl)).cons (hF1059.get (t := 5) (v := (.pointer (some ⟨g43, 0, none⟩))) rfl)).cons (hF1059.get (t := 25) (v := (.bool (decide ((40 : Int) < ((l.length : Nat) : Int))))) rfl)).cons (hF1059.get (t := 22) (v := (.bool false)) rfl)).cons (hF1059.get (t := 4) (v := (.bool true)) rfl)).cons (hF1059.get (t := 1) (v := (.int .u8 lf)) rfl)).cons (hF1059.get (t := 0) (v := (.slice C l.length f)) rfl))
      clear hF1059
      refine wp_ret ?_
      refine ret1 hF1060 rfl rfl ?_
      exact ⟨congrArg (fun b => Ending.returned (.bool b)) (rfl : true = true), (((((Ext.refl w).trans hx164).trans hx1022).trans hx1043).trans hx1051)⟩

end Go.Proofs.Ytklhgghlkidfjaa
