/- The law JournalDamage, walked. -/
import Derived.Test.YtfmhnplkpohogaaProg
import Derived.Test.YtfmhnplkpohogaaBvgI
import Derived.KernelRfl
import Derived.Test.YtfmhnplkpohogaaBvgA
import Derived.Test.YtfmhnplkpohogaaBvgB
set_option linter.unusedVariables false
set_option linter.unusedSimpArgs false
namespace Go.Proofs.Ytfmhnplkpohogaa
open Go.RowKit

variable {S S' : Nat → Prop}

theorem El47 : El Try.prog 47 3 (.int .i64 0) 1 8 := ⟨Try.underlying47, by kernel_rfl, rfl, by decide⟩

set_option maxRecDepth 100000 in
set_option maxHeartbeats 4000000 in
theorem jdamage_any (A : Option Addr) (c : Nat) (R : List (List UInt8)) (sc at0 : Int) (q : UInt8) (w : World) (hn : RBss S w (.slice A R.length c) R) (hb : ∀ x ∈ R, x.length ≤ 140737488355328) :
  Calls Try.prog 7 #[.slice A R.length c, .int .i64 sc, .int .i64 at0, .int .u8 (q.toNat : Nat)] w (RB w true) := by
 have hnc := RBss.clip hn
 obtain ⟨-, hnc1, hnc2⟩ := RBss.at hn
 have hlNT : (@List.nil (List UInt8)).length = 0 := rfl
 refine calls_enter (l := [(.slice A R.length c), (.int .i64 sc), (.int .i64 at0), (.int .u8 (q.toNat : Nat))]) Try.func7 rfl rfl rfl (fun aA hF => ?_)
 refine wp_seq_k (fun K1 hK1 => ?_)
 refine wp_region_lit ?_
 refine qv 0 (.bool false) hF rfl (rn_assign rfl) fun _ F3 => ?_; clear hF
 refine wpList_nil ?_
 refine hK1 _ _ ?_
 clear hK1
 refine wp_seq_k (fun K4 hK4 => ?_)
 refine wp_seq_k (fun K5 hK5 => ?_)
 refine wp_region_lit ?_
 refine wpl_op (i := 0) rfl (o_call F3 rfl rfl rfl rfl (rn_call (args0 ) rfl (by kernel_rfl)) (sane9_any _) ?_)
 rintro _ w6 ⟨rfl, hx7⟩
 refine ⟨_, rfl, ?_⟩; intro a8 F9; clear F3; have z10 := hx7.size
 refine qv 1 (.bool false) F9 rfl (rn_not' (F9.get rfl) rfl) fun _ F12 => ?_; clear F9
 refine wpList_nil ?_
 refine hK5 _ _ ?_
 clear hK5
 refine wp_cond_false (c_false F12 rfl rfl) ?_
 refine wp_skip ?_
 refine hK4 _ _ ?_
 clear hK4
 refine wp_seq_k (fun K13 hK13 => ?_)
 refine wp_region_lit ?_
 refine wpl_op (i := 0) rfl (o_call F12 rfl rfl rfl rfl (rn_call (args1 rfl) rfl (by kernel_rfl)) (calls_conv (new_any (S := fun _ => False) _ _) (congrArg Prod.fst new_40) (congrArg Prod.snd new_40)) ?_)
 rintro _ w20 ⟨v19, rfl, hd18, hx21⟩
 obtain ⟨A14, c15, B16, e17, rfl, -, -⟩ := hd18.form
 have hd18 := hd18.clip
 refine ⟨_, rfl, ?_⟩; intro a22 F23; clear F12; have z24 := hx21.size
 refine qv 1 (.tuple #[(.agg #[(.slice A14 n40.sectors.length c15), (.slice B16 n40.pending.length e17), (.int .i64 n40.left), (.bool n40.stopped)]), (.int .i64 0)]) F23 rfl (rn_move (F23.get rfl)) fun _ F26 => ?_; clear F23
 refine qv 2 (.agg #[(.slice A14 n40.sectors.length c15), (.slice B16 n40.pending.length e17), (.int .i64 n40.left), (.bool n40.stopped)]) F26 rfl (rn_extract (F26.get rfl) rfl) fun _ F28 => ?_; clear F26
 refine qv 3 (.int .i64 0) F28 rfl (rn_extract (F28.get rfl) rfl) fun _ F30 => ?_; clear F28
 refine wpl_op (i := 4) rfl (o_new (fun g => (.pointer (some ⟨g, 0, none⟩))) [(.slice none 0 0), (.slice none 0 0), (.int .i64 0), (.bool false)] 25 F30 rfl rfl rfl rfl (by kernel_rfl) ?_)
 intro g31 w32 a37 F38 z35 z36 b33 hx34; clear F30
 refine wpl_op (i := 5) rfl (o_store (cells := [(.slice A14 n40.sectors.length c15), (.slice B16 n40.pending.length e17), (.int .i64 n40.left), (.bool n40.stopped)]) F38 rfl rfl rfl rfl (F38.get rfl) (F38.get rfl) b33 inf25 rfl (by simp [Value.oneCell']) ?_)
 intro w39 b40 hg41; have z42 := hg41.size
 refine qv 6 (.int .i64 0) F38 rfl (rn_assign (F38.get rfl)) fun _ F44 => ?_; clear F38
 refine wpList_nil ?_
 refine hK13 _ _ ?_
 clear hK13
 have F45 := ((((((((F44.nil.c F44 10 rfl).c F44 9 rfl).c F44 29 rfl).c F44 8 rfl).c F44 3 rfl).c F44 2 rfl).c F44 1 rfl).c F44 0 rfl)
 clear F44
 refine wp_seq_k (fun K46 hK46 => ?_)
 refine wp_seq_k (fun K47 hK47 => ?_)
 refine wp_region_lit ?_
 refine qv 0 (.int .i64 0) F45 rfl (rn_move (F45.get rfl)) fun _ F49 => ?_; clear F45
 refine qv 1 (.bool false) F49 rfl (rn_neq' (F49.get rfl) rfl (by decide)) fun _ F51 => ?_; clear F49
 refine qv 2 (.bool false) F51 rfl (rn_move (F51.get rfl)) fun _ F53 => ?_; clear F51
 refine qg 3 (.agg #[(.slice A14 n40.sectors.length c15), (.slice B16 n40.pending.length e17), (.int .i64 n40.left), (.bool n40.stopped)]) F53 rfl (rn_loadBlk (F53.get rfl) b40 Try.underlying25 rfl inf25) fun _ F55 => ?_; clear F53
 refine qg 4 (.slice A R.length c) F55 rfl (rn_move (F55.get rfl)) fun _ F57 => ?_; clear F55
 have d58 := (hnc.pres (((((Pres.refl w).ext hx7).ext hx21).ext hx34).grownN hg41 (fun h => by simp only [Clip] at h; omega)))
 refine wpl_op (i := 5) rfl (o_call F57 rfl (wanted_guard rfl rfl rfl F57 rfl rfl rfl) rfl rfl (rn_call (args2 (F57.get rfl) (F57.get rfl)) rfl (by kernel_rfl)) (few9_at (v := (.slice A R.length c)) A14 n40.sectors.length c15 B16 n40.pending.length e17 n40.left n40.stopped R _ d58 hb) ?_)
 rintro _ w61 ⟨bq59, rfl, hfew60, hx62⟩
 refine ⟨_, rfl, ?_⟩; intro a63 F64; clear F57; have z65 := hx62.size
 refine qg 6 (.bool (!bq59)) F64 rfl (rn_not' (F64.get rfl) rfl) fun _ F67 => ?_; clear F64
 refine qv 7 (.bool (!bq59)) F67 rfl (rn_pickF (c_false F67 rfl rfl) (F67.get rfl)) fun _ F69 => ?_; clear F67
 refine qv 8 (.bool (!bq59)) F69 rfl (rn_move (F69.get rfl)) fun _ F71 => ?_; clear F69
 rcases Bool.eq_false_or_eq_true bq59 with hc72 | hc72
 ·skip
  refine qg 9 (.slice A R.length c) F71 (not_t hc72) (rn_move (F71.get rfl)) fun _ F74 => ?_; clear F71
  refine qg 10 (.int .i64 (R.length : Nat)) F74 (not_t hc72) (rn_len_slice Try.underlying22 (F74.get rfl)) fun _ F76 => ?_; clear F74
  refine qg 11 (.bool (decide (((R.length : Nat) : Int) = (0 : Int)))) F76 (not_t hc72) (rn_eql (F76.get rfl) rfl) fun _ F78 => ?_; clear F76
  refine qv 12 (.bool (decide (((R.length : Nat) : Int) = (0 : Int)))) F78 rfl (rn_pickF (c_false F78 rfl (not_t hc72)) (F78.get rfl)) fun _ F80 => ?_; clear F78
  refine qv 13 (.bool (decide (((R.length : Nat) : Int) = (0 : Int)))) F80 rfl (rn_move (F80.get rfl)) fun _ F82 => ?_; clear F80
  by_cases hc83 : ((R.length : Nat) : Int) = (0 : Int)
  ·skip
   refine qu 14 F82 (decide_eq_true hc83) fun _ F85 => ?_; clear F82
   refine qu 15 F85 (decide_eq_true hc83) fun _ F87 => ?_; clear F85
   refine qv 16 (.bool true) F87 rfl (rn_pickT (c_true F87 rfl (decide_eq_true hc83)) rfl) fun _ F89 => ?_; clear F87
   refine wpList_nil ?_
   refine hK47 _ _ ?_
   clear hK47
   have F90 := (((((((((F89.nil.c F89 50 rfl).c F89 10 rfl).c F89 9 rfl).c F89 29 rfl).c F89 8 rfl).c F89 3 rfl).c F89 2 rfl).c F89 1 rfl).c F89 0 rfl)
   clear F89
   refine wp_cond_true (c_true F90 rfl rfl) ?_
   refine wp_seq_k (fun K91 hK91 => ?_)
   refine wp_region_lit ?_
   refine qv 0 (.int .i64 0) F90 rfl (rn_move (F90.get rfl)) fun _ F93 => ?_; clear F90
   refine qv 1 (.bool true) F93 rfl (rn_eql' (F93.get rfl) rfl (by decide)) fun _ F95 => ?_; clear F93
   refine qv 2 (.bool true) F95 rfl (rn_assign (F95.get rfl)) fun _ F97 => ?_; clear F95
   refine wpList_nil ?_
   refine hK91 _ _ ?_
   clear hK91
   refine wp_ret ?_
   refine ret_then ?_
   refine ret1 F97 rfl rfl ?_
   exact ⟨congrArg (fun b => Ending.returned (.bool b)) (rfl : true = true), ((((((Ext.refl w).trans hx7).trans hx21).trans hx34).grownN hg41 (by omega)).trans hx62)⟩
  ·skip
   refine qg 14 (.int .u8 (q.toNat : Nat)) F82 (decide_eq_false hc83) (rn_move (F82.get rfl)) fun _ F99 => ?_; clear F82
   refine qg 15 (.bool (decide (((q.toNat : Nat) : Int) = (0 : Int)))) F99 (decide_eq_false hc83) (rn_eql (F99.get rfl) rfl) fun _ F101 => ?_; clear F99
   refine qv 16 (.bool (decide (((q.toNat : Nat) : Int) = (0 : Int)))) F101 rfl (rn_pickF (c_false F101 rfl (decide_eq_false hc83)) (F101.get rfl)) fun _ F103 => ?_; clear F101
   refine wpList_nil ?_
   refine hK47 _ _ ?_
   clear hK47
   have F104 := (((((((((F103.nil.c F103 50 rfl).c F103 10 rfl).c F103 9 rfl).c F103 29 rfl).c F103 8 rfl).c F103 3 rfl).c F103 2 rfl).c F103 1 rfl).c F103 0 rfl)
   clear F103
   by_cases hc105 : ((q.toNat : Nat) : Int) = (0 : Int)
   ·skip
    refine wp_cond_true (c_true F104 rfl (decide_eq_true hc105)) ?_
    refine wp_seq_k (fun K106 hK106 => ?_)
    refine wp_region_lit ?_
    refine qv 0 (.int .i64 0) F104 rfl (rn_move (F104.get rfl)) fun _ F108 => ?_; clear F104
    refine qv 1 (.bool true) F108 rfl (rn_eql' (F108.get rfl) rfl (by decide)) fun _ F110 => ?_; clear F108
    refine qv 2 (.bool true) F110 rfl (rn_assign (F110.get rfl)) fun _ F112 => ?_; clear F110
    refine wpList_nil ?_
    refine hK106 _ _ ?_
    clear hK106
    refine wp_ret ?_
    refine ret_then ?_
    refine ret1 F112 rfl rfl ?_
    exact ⟨congrArg (fun b => Ending.returned (.bool b)) (rfl : true = true), ((((((Ext.refl w).trans hx7).trans hx21).trans hx34).grownN hg41 (by omega)).trans hx62)⟩
   ·skip
    have hq : q.toNat ≠ 0 := by omega
    refine wp_cond_false (c_false F104 rfl (decide_eq_false hc105)) ?_
    refine wp_skip ?_
    refine hK46 _ _ ?_
    clear hK46
    refine wp_seq_k (fun K113 hK113 => ?_)
    refine wp_region_lit ?_
    have b114 := (b40.ext hx62)
    refine qv 0 (.agg #[(.slice A14 n40.sectors.length c15), (.slice B16 n40.pending.length e17), (.int .i64 n40.left), (.bool n40.stopped)]) F104 rfl (rn_loadBlk (F104.get rfl) b114 Try.underlying25 rfl inf25) fun _ F116 => ?_; clear F104
    have d117 := (hd18.pres ((((Pres.refl w20).ext hx34).grownN hg41 (fun h => by first | (simp only [Clip, ne_eq, not_true_eq_false, and_false, false_and] at h; done) | (have h2 := h.2; omega) | (rcases h.1 with (h | h) | h <;> first | (simp only [Clip, ne_eq, not_true_eq_false, and_false, false_and] at h; done) | omega | (simp only [Clip] at h; omega)) | (rcases h.1 with h | h <;> first | (simp only [Clip, ne_eq, not_true_eq_false, and_false, false_and] at h; done) | omega | (simp only [Clip] at h; omega)))).ext hx62))
    refine wpl_op (i := 1) rfl (o_call F116 rfl rfl rfl rfl (rn_call (args1 (F116.get rfl)) rfl (by kernel_rfl)) (open_conv (open_at (v := (.agg #[(.slice A14 n40.sectors.length c15), (.slice B16 n40.pending.length e17), (.int .i64 n40.left), (.bool n40.stopped)])) n40 _ d117) st_40.open3) ?_)
    rintro _ w121 ⟨A118, c119, rfl, hb120, hx122⟩
    refine ⟨_, rfl, ?_⟩; intro a123 F124; clear F116; have z125 := hx122.size
    obtain ⟨-, z127, z128⟩ := RBss.at hb120
    have hf126 : RBss (Clip (fun b => Fr S w b ∧ b ≠ g31) w121) w121 (.slice A118 0 c119) (@List.nil (List UInt8)) := (RBss.clip hb120).sub fun b h => by obtain ⟨h, hlt⟩ := h; have h : w61.heap.size ≤ b := h; exact ⟨⟨.inr (by omega), by omega⟩, by omega⟩
    refine qv 2 (.tuple #[(.agg #[(.int .i64 (40 : Nat)), (.slice A118 0 c119), (.int .i64 0)]), (.int .i64 0)]) F124 rfl (rn_move (F124.get rfl)) fun _ F130 => ?_; clear F124
    refine qv 3 (.agg #[(.int .i64 (40 : Nat)), (.slice A118 0 c119), (.int .i64 0)]) F130 rfl (rn_extract (F130.get rfl) rfl) fun _ F132 => ?_; clear F130
    refine qv 4 (.int .i64 0) F132 rfl (rn_extract (F132.get rfl) rfl) fun _ F134 => ?_; clear F132
    refine wpl_op (i := 5) rfl (o_new (fun g => (.pointer (some ⟨g, 0, none⟩))) [(.int .i64 0), (.slice none 0 0), (.int .i64 0)] 29 F134 rfl rfl rfl rfl (by kernel_rfl) ?_)
    intro g135 w136 a141 F142 z139 z140 b137 hx138; clear F134
    refine wpl_op (i := 6) rfl (o_store (cells := [(.int .i64 (40 : Nat)), (.slice A118 0 c119), (.int .i64 0)]) F142 rfl rfl rfl rfl (F142.get rfl) (F142.get rfl) b137 inf29 rfl (by simp [Value.oneCell']) ?_)
    intro w143 b144 hg145; have z146 := hg145.size
    refine qv 7 (.int .i64 0) F142 rfl (rn_assign (F142.get rfl)) fun _ F148 => ?_; clear F142
    refine wpList_nil ?_
    refine hK113 _ _ ?_
    clear hK113
    have F149 := (((((((((((F148.nil.c F148 12 rfl).c F148 11 rfl).c F148 50 rfl).c F148 10 rfl).c F148 9 rfl).c F148 29 rfl).c F148 8 rfl).c F148 3 rfl).c F148 2 rfl).c F148 1 rfl).c F148 0 rfl)
    clear F148
    refine wp_seq_k (fun K150 hK150 => ?_)
    refine wp_seq_k (fun K151 hK151 => ?_)
    refine wp_region_lit ?_
    refine qv 0 (.int .i64 0) F149 rfl (rn_move (F149.get rfl)) fun _ F153 => ?_; clear F149
    refine qv 1 (.bool false) F153 rfl (rn_neq' (F153.get rfl) rfl (by decide)) fun _ F155 => ?_; clear F153
    refine wpList_nil ?_
    refine hK151 _ _ ?_
    clear hK151
    refine wp_cond_false (c_false F155 rfl rfl) ?_
    refine wp_skip ?_
    refine hK150 _ _ ?_
    clear hK150
    refine wp_seq_k (fun K156 hK156 => ?_)
    refine wp_region_lit ?_
    refine qv 0 (.slice none 0 0) F155 rfl (rn_assign rfl) fun _ F158 => ?_; clear F155
    refine wpList_nil ?_
    refine hK156 _ _ ?_
    clear hK156
    refine wp_seq_k (fun K159 hK159 => ?_)
    refine wp_seq_k (fun K160 hK160 => ?_)
    refine wp_region_lit ?_
    refine qv 0 (.slice A R.length c) F158 rfl (rn_move (F158.get rfl)) fun _ F162 => ?_; clear F158
    refine qv 1 (.int .i64 (R.length : Nat)) F162 rfl (rn_len_slice Try.underlying22 (F162.get rfl)) fun _ F164 => ?_; clear F162
    refine qv 2 (.int .i64 0) F164 rfl (rn_move rfl) fun _ F166 => ?_; clear F164
    refine wpList_nil ?_
    refine hK160 _ _ ?_
    clear hK160
    refine wp_block ?_
    have d167 := (hd18.pres (((((((Pres.refl w20).ext hx34).grownN hg41 (fun h => by first | (simp only [Clip, ne_eq, not_true_eq_false, and_false, false_and] at h; done) | (have h2 := h.2; omega) | (rcases h.1 with (h | h) | h <;> first | (simp only [Clip, ne_eq, not_true_eq_false, and_false, false_and] at h; done) | omega | (simp only [Clip] at h; omega)) | (rcases h.1 with h | h <;> first | (simp only [Clip, ne_eq, not_true_eq_false, and_false, false_and] at h; done) | omega | (simp only [Clip] at h; omega)))).ext hx62).ext hx122).ext hx138).grownN hg145 (fun h => by first | (simp only [Clip, ne_eq, not_true_eq_false, and_false, false_and] at h; done) | (have h2 := h.2; omega) | (rcases h.1 with (h | h) | h <;> first | (simp only [Clip, ne_eq, not_true_eq_false, and_false, false_and] at h; done) | omega | (simp only [Clip] at h; omega)) | (rcases h.1 with h | h <;> first | (simp only [Clip, ne_eq, not_true_eq_false, and_false, false_and] at h; done) | omega | (simp only [Clip] at h; omega)))))
    have d168 := (hf126.pres (((Pres.refl w121).ext hx138).grownN hg145 (fun h => by first | (simp only [Clip, ne_eq, not_true_eq_false, and_false, false_and] at h; done) | (have h2 := h.2; omega) | (rcases h.1 with (h | h) | h <;> first | (simp only [Clip, ne_eq, not_true_eq_false, and_false, false_and] at h; done) | omega | (simp only [Clip] at h; omega)) | (rcases h.1 with h | h <;> first | (simp only [Clip, ne_eq, not_true_eq_false, and_false, false_and] at h; done) | omega | (simp only [Clip] at h; omega)))))
    have b169 := (((b114.ext hx122).ext hx138).grownN hg145 (by omega))
    refine wp_loop (fun a' W => ∃ (k : Nat) (Q : List (List UInt8)) (Aq : Option Addr) (cq : Nat) (Ae : Option Addr) (ne : Nat) (ce : Nat) (E : List Int), Sl 211 [(0, (.slice A R.length c)), (1, (.int .i64 sc)), (2, (.int .i64 at0)), (3, (.int .u8 (q.toNat : Nat))), (8, (.bool false)), (29, (.bool false)), (9, (.pointer (some ⟨g31, 0, none⟩))), (10, (.int .i64 0)), (50, (.bool (decide (((q.toNat : Nat) : Int) = (0 : Int))))), (11, (.pointer (some ⟨g135, 0, none⟩))), (12, (.int .i64 0)), (59, (.bool false)), (13, (.slice Ae ne ce)), (60, (.slice A R.length c)), (61, (.int .i64 (R.length : Nat))), (62, (.int .i64 (k : Nat)))] a' ∧ k ≤ R.length ∧ usedL Q ≤ 40 ∧ E = endsL Q ∧ ne = Q.length ∧ Ext w W ∧ Blk W g31 25 [(.slice A14 n40.sectors.length c15), (.slice B16 n40.pending.length e17), (.int .i64 n40.left), (.bool n40.stopped)] ∧ Blk W g135 29 [(.int .i64 (40 : Nat)), (.slice Aq Q.length cq), (.int .i64 0)] ∧ W.ownsRow w143.heap.size 3 1 (.slice Ae ne ce) ne (intVals E) ∧ RDk (Clip (Fr (fun _ => False) w6) w20) W (.agg #[(.slice A14 n40.sectors.length c15), (.slice B16 n40.pending.length e17), (.int .i64 n40.left), (.bool n40.stopped)]) n40 ∧ RBss (Clip (fun b => Fr S w b ∧ b ≠ g31) w121) W (.slice A118 0 c119) (@List.nil (List UInt8)) ∧ RBss (Clip (fun b => Fr S w b ∧ b ≠ g31 ∧ b ≠ g135 ∧ some b ≠ (Value.slice Ae ne ce).ownBlock) W) W (.slice Aq Q.length cq) Q ∧ w143.heap.size ≤ W.heap.size ∧ w143.heap.size ≤ W.heap.size) (fun a' _ => R.length - (intOf (a'.eval (.tmp 62))).toNat) ⟨0, (@List.nil (List UInt8)), A118, c119, none, 0, 0, [], ((((((((((((((((F166.nil.cons (q_get F166 (t := 62) rfl (by first | rfl | (congr 1; omega) | (congr 1; done)))).cons (q_get F166 (t := 61) rfl rfl)).cons (q_get F166 (t := 60) rfl rfl)).cons (q_get F166 (t := 13) rfl (by first | rfl | (congr 1; omega) | (congr 1; done)))).cons (q_get F166 (t := 59) rfl rfl)).cons (q_get F166 (t := 12) rfl rfl)).cons (q_get F166 (t := 11) rfl rfl)).cons (q_get F166 (t := 50) rfl rfl)).cons (q_get F166 (t := 10) rfl rfl)).cons (q_get F166 (t := 9) rfl rfl)).cons (q_get F166 (t := 29) rfl rfl)).cons (q_get F166 (t := 8) rfl rfl)).cons (q_get F166 (t := 3) rfl rfl)).cons (q_get F166 (t := 2) rfl rfl)).cons (q_get F166 (t := 1) rfl rfl)).cons (q_get F166 (t := 0) rfl rfl)), (by omega), (by decide), rfl, rfl, (((((((((Ext.refl w).trans hx7).trans hx21).trans hx34).grownN hg41 (by omega)).trans hx62).trans hx122).trans hx138).grownN hg145 (by omega)), b169, b144, (own_nil w143 w143.heap.size 3 1), d167, d168, (RBss.sub (S := (Clip (fun b => Fr S w b ∧ b ≠ g31) w121)) d168 fun b h => by obtain ⟨h, hlt⟩ := h; exact ⟨⟨h.1, h.2, by clear h; omega, fun e => by cases e⟩, by clear h; omega⟩), (by omega), (Nat.le_refl _)⟩ ?_
    clear F166
    rintro a170 w171 ⟨k, Q, Aq, cq, Ae, ne, ce, E, F172, hp174, hp175, hp176, hp177, hx173, b178, b179, r180, hf181, hf182, hf183, hf184, hf185⟩
    have hL186 := F172
    have z187 := hx173.size
    have z188 := b178.lt
    have z189 := b179.lt
    have z190 := own_form0 r180
    obtain ⟨-, z191, z192⟩ := RBss.at hf183
    have hqb := used_bnd hp175 (by decide); have hql := usedL_len Q; have hlc : (Lg.mk (40 : Nat) Q 0).check = 0 := check_eq (by decide) (by decide) (by decide) (by omega) (by omega); have huz := used_zero (Q := Q); have hEl : E.length = ne := by rw [hp176, ends_len, hp177]
    refine wp_seq_k (fun K193 hK193 => ?_)
    refine wp_region_lit ?_
    refine qv 0 (.bool (decide (((k : Nat) : Int) < ((R.length : Nat) : Int)))) F172 rfl (rn_lss (F172.get rfl) (F172.get rfl)) fun _ F195 => ?_; clear F172
    refine wpList_nil ?_
    refine hK193 _ _ ?_
    clear hK193
    refine wp_seq_k (fun K196 hK196 => ?_)
    by_cases hc197 : ((k : Nat) : Int) < ((R.length : Nat) : Int)
    ·skip
     refine wp_cond_true (c_true F195 rfl (decide_eq_true hc197)) ?_
     refine wp_skip ?_
     refine hK196 _ _ ?_
     clear hK196
     refine wp_seq_k (fun K198 hK198 => ?_)
     refine wp_block ?_
     refine wp_seq_k (fun K199 hK199 => ?_)
     refine wp_region_lit ?_
     have d213 := (hnc.ext hx173)
     obtain ⟨x200, hi201, hm202⟩ := nth_of_lt R k (by omega)
     obtain ⟨b203, o204, A205, c206, hA207, hl208, hc209, hr210, le211, le212⟩ := RBss.get d213 hi201
     have z214 := hb x200 (List.mem_of_getElem? hi201)
     refine qv 0 (.pointer (some ⟨b203, o204 + k, none⟩)) F195 rfl (rn_index1 Try.underlying22 inf35 ((F195.get rfl).trans (by rw [hA207])) (F195.get rfl) (by omega : (0 : Int) ≤ (k : Nat)) (by omega : ((k : Nat) : Int) < ((R.length : Nat) : Int))) fun _ F216 => ?_; clear F195
     refine qv 1 (.slice A205 x200.length c206) F216 rfl (rn_load (isAgg_no Try.underlying35 rfl) (F216.get rfl) (Ext.keep (Ext.refl w171) hc209)) fun _ F218 => ?_; clear F216
     refine qv 2 (.slice A205 x200.length c206) F218 rfl (rn_assign (F218.get rfl)) fun _ F220 => ?_; clear F218
     refine wpList_nil ?_
     refine hK199 _ _ ?_
     clear hK199
     refine wp_seq_k (fun K221 hK221 => ?_)
     by_cases hc222 : usedL Q + secs x200.length ≤ 40
     ·skip
      have hfit := hc222
      refine wp_region_lit ?_
      refine qv 0 (.agg #[(.int .i64 (40 : Nat)), (.slice Aq Q.length cq), (.int .i64 0)]) F220 rfl (rn_loadBlk (F220.get rfl) b179 Try.underlying29 rfl inf29) fun _ F224 => ?_; clear F220
      refine qv 1 (.slice A205 x200.length c206) F224 rfl (rn_move (F224.get rfl)) fun _ F226 => ?_; clear F224
      have hf227 := r180
      refine wpl_op (i := 2) rfl (o_call F226 rfl rfl rfl rfl (rn_call (args2 (F226.get rfl) (F226.get rfl)) rfl (by kernel_rfl)) (app_conv (app_at (S := (fun b => (Clip (fun b => Fr S w b ∧ b ≠ g31 ∧ b ≠ g135 ∧ some b ≠ (Value.slice Ae ne ce).ownBlock) w171) b ∨ (Clip S w) b)) (v := (.slice Aq Q.length cq)) (u := (.slice A205 x200.length c206)) (n := x200.length) (40 : Nat) Q 0 x200 _ (RBss.sub hf183 fun b hb => .inl hb) hqb.1 (by omega) (Fl.sub (RBs.fl hr210) fun b hb => .inr hb) (by omega)) (app_fit hlc (by omega) (by omega))) ?_)
      rintro _ w231 ⟨A228, c229, rfl, hb230, hx232⟩
      refine ⟨_, rfl, ?_⟩; intro a233 F234; clear F226; have z235 := hx232.size
      obtain ⟨-, z237, z238⟩ := RBss.at hb230
      have hf236 : RBss (Clip (fun b => Fr S w b ∧ b ≠ g31 ∧ b ≠ g135 ∧ some b ≠ (Value.slice Ae ne ce).ownBlock) w231) w231 (.slice A228 ((Q ++ [x200]).length) c229) (Q ++ [x200]) := (RBss.clip hb230).sub fun b h => by obtain ⟨h, hlt⟩ := h; (rcases h with h | h; (focus ((rcases h with h | h; (focus (obtain ⟨h, hlt⟩ := h; exact ⟨⟨h.1, h.2.1, h.2.2.1, h.2.2.2⟩, by clear h; omega⟩)); (obtain ⟨h, hlt⟩ := h; have hS := h; clear h; exact ⟨⟨.inl hS, by omega, by omega, fun e => by have h5 := own_ge hf227 b e; have h6 := own_blk_lt hf227 b e; omega⟩, by omega⟩)))); (exact ⟨⟨.inr (by omega), by omega, by omega, fun e => by have h5 := own_ge hf227 b e; have h6 := own_blk_lt hf227 b e; omega⟩, by omega⟩))
      refine qv 3 (.tuple #[(.agg #[(.int .i64 (40 : Nat)), (.slice A228 ((Q ++ [x200]).length) c229), (.int .i64 0)]), (.int .i64 0)]) F234 rfl (rn_move (F234.get rfl)) fun _ F240 => ?_; clear F234
      refine qv 4 (.agg #[(.int .i64 (40 : Nat)), (.slice A228 ((Q ++ [x200]).length) c229), (.int .i64 0)]) F240 rfl (rn_extract (F240.get rfl) rfl) fun _ F242 => ?_; clear F240
      refine qv 5 (.int .i64 0) F242 rfl (rn_extract (F242.get rfl) rfl) fun _ F244 => ?_; clear F242
      refine wpl_op (i := 6) rfl (o_new (fun g => (.pointer (some ⟨g, 0, none⟩))) [(.int .i64 0), (.slice none 0 0), (.int .i64 0)] 29 F244 rfl rfl rfl rfl (by kernel_rfl) ?_)
      intro g245 w246 a251 F252 z249 z250 b247 hx248; clear F244
      refine wpl_op (i := 7) rfl (o_store (cells := [(.int .i64 (40 : Nat)), (.slice A228 ((Q ++ [x200]).length) c229), (.int .i64 0)]) F252 rfl rfl rfl rfl (F252.get rfl) (F252.get rfl) b247 inf29 rfl (by simp [Value.oneCell']) ?_)
      intro w253 b254 hg255; have z256 := hg255.size
      refine qv 8 (.int .i64 0) F252 rfl (rn_assign (F252.get rfl)) fun _ F258 => ?_; clear F252
      refine wpList_nil ?_
      refine hK221 _ _ ?_
      clear hK221
      have F259 := ((((((((((((((((((((F258.nil.c F258 17 rfl).c F258 16 rfl).c F258 15 rfl).c F258 63 rfl).c F258 62 rfl).c F258 61 rfl).c F258 60 rfl).c F258 13 rfl).c F258 59 rfl).c F258 12 rfl).c F258 11 rfl).c F258 50 rfl).c F258 10 rfl).c F258 9 rfl).c F258 29 rfl).c F258 8 rfl).c F258 3 rfl).c F258 2 rfl).c F258 1 rfl).c F258 0 rfl)
      clear F258
      refine wp_seq_k (fun K260 hK260 => ?_)
      refine wp_seq_k (fun K261 hK261 => ?_)
      refine wp_region_lit ?_
      refine qv 0 (.int .i64 0) F259 rfl (rn_move (F259.get rfl)) fun _ F263 => ?_; clear F259
      refine qv 1 (.bool false) F263 rfl (rn_neq' (F263.get rfl) rfl (by decide)) fun _ F265 => ?_; clear F263
      refine wpList_nil ?_
      refine hK261 _ _ ?_
      clear hK261
      refine wp_cond_false (c_false F265 rfl rfl) ?_
      refine wp_skip ?_
      refine hK260 _ _ ?_
      clear hK260
      refine wp_seq_k (fun K266 hK266 => ?_)
      refine wp_region_lit ?_
      refine qv 0 (.agg #[(.int .i64 (40 : Nat)), (.slice A228 ((Q ++ [x200]).length) c229), (.int .i64 0)]) F265 rfl (rn_loadBlk (F265.get rfl) b254 Try.underlying29 rfl inf29) fun _ F268 => ?_; clear F265
      have b272 := (((b179.ext hx232).ext hx248).grownN hg255 (by omega))
      refine wpl_op (i := 1) rfl (o_store (cells := [(.int .i64 (40 : Nat)), (.slice A228 ((Q ++ [x200]).length) c229), (.int .i64 0)]) F268 rfl rfl rfl rfl (F268.get rfl) (F268.get rfl) b272 inf29 rfl (by simp [Value.oneCell']) ?_)
      intro w269 b270 hg271; have z273 := hg271.size
      refine wpList_nil ?_
      refine hK266 _ _ ?_
      clear hK266
      refine wp_seq_k (fun K274 hK274 => ?_)
      refine wp_region_lit ?_
      refine qv 0 (.slice A205 x200.length c206) F268 rfl (rn_move (F268.get rfl)) fun _ F276 => ?_; clear F268
      refine qv 1 (.int .i64 (x200.length : Nat)) F276 rfl (rn_len_slice Try.underlying35 (F276.get rfl)) fun _ F278 => ?_; clear F276
      refine qv 2 (.int .i64 (x200.length + 111 : Nat)) F278 rfl (rn_addN (a := x200.length) (b := 111) (F278.get rfl) rfl (by omega)) fun _ F280 => ?_; clear F278
      refine qv 3 (.int .i64 ((x200.length + 111) / 112 : Nat)) F280 rfl (rn_quoN (a := x200.length + 111) (b := 112) (F280.get rfl) rfl (by omega) (by omega)) fun _ F282 => ?_; clear F280
      refine qv 4 (.int .i64 (max 1 ((x200.length + 111) / 112) : Nat)) F282 rfl (rn_max2N (a := 1) (b := (x200.length + 111) / 112) Try.underlying3 rfl (F282.get rfl)) fun _ F284 => ?_; clear F282
      refine qv 5 (.int .i64 (max 1 ((x200.length + 111) / 112) : Nat)) F284 rfl (rn_assign (F284.get rfl)) fun _ F286 => ?_; clear F284
      refine wpList_nil ?_
      refine hK274 _ _ ?_
      clear hK274
      have F287 := ((((((((((((((((((((((F286.nil.c F286 18 rfl).c F286 73 rfl).c F286 17 rfl).c F286 16 rfl).c F286 15 rfl).c F286 63 rfl).c F286 62 rfl).c F286 61 rfl).c F286 60 rfl).c F286 13 rfl).c F286 59 rfl).c F286 12 rfl).c F286 11 rfl).c F286 50 rfl).c F286 10 rfl).c F286 9 rfl).c F286 29 rfl).c F286 8 rfl).c F286 3 rfl).c F286 2 rfl).c F286 1 rfl).c F286 0 rfl)
      clear F286
      refine wp_seq_k (fun K288 hK288 => ?_)
      refine wp_seq_k (fun K289 hK289 => ?_)
      refine wp_region_lit ?_
      refine qv 0 (.slice Ae ne ce) F287 rfl (rn_move (F287.get rfl)) fun _ F291 => ?_; clear F287
      refine qv 1 (.int .i64 (ne : Nat)) F291 rfl (rn_len_slice Try.underlying47 (F291.get rfl)) fun _ F293 => ?_; clear F291
      refine qv 2 (.bool (decide ((0 : Int) < ((ne : Nat) : Int)))) F293 rfl (rn_gtr (F293.get rfl) rfl) fun _ F295 => ?_; clear F293
      refine wpList_nil ?_
      refine hK289 _ _ ?_
      clear hK289
      by_cases hc296 : (0 : Int) < ((ne : Nat) : Int)
      ·skip
       have hlast : E.getD (ne - 1) 0 = ((usedL Q : Nat) : Int) := by rw [hp176, hp177]; exact ends_last (by omega)
       refine wp_cond_true (c_true F295 rfl (decide_eq_true hc296)) ?_
       have r297 := (own_grownT (own_grownT (own_ext (own_ext r180 hx232) hx248) b247 hg255 (by decide)) b272 hg271 (by decide))
       have hf298 := (Fl.own (S := fun b => w143.heap.size ≤ b) r297 (fun b hb => hb) (intVals_one _))
       refine wp_region_lit ?_
       refine qv 0 (.int .i64 (max 1 ((x200.length + 111) / 112) : Nat)) F295 rfl (rn_move (F295.get rfl)) fun _ F300 => ?_; clear F295
       refine qv 1 (.slice Ae ne ce) F300 rfl (rn_move (F300.get rfl)) fun _ F302 => ?_; clear F300
       refine qv 2 (.slice Ae ne ce) F302 rfl (rn_move (F302.get rfl)) fun _ F304 => ?_; clear F302
       refine qv 3 (.int .i64 (ne : Nat)) F304 rfl (rn_len_slice Try.underlying47 (F304.get rfl)) fun _ F306 => ?_; clear F304
       refine qv 4 (.int .i64 (ne - 1 : Nat)) F306 rfl (rn_subN (a := ne) (b := 1) (F306.get rfl) rfl (by omega) (by omega)) fun _ F308 => ?_; clear F306
       obtain ⟨b309, o310, hA311, -⟩ := Fl.at hf298 (by omega)
       refine qv 5 (.pointer (some ⟨b309, o310 + (ne - 1), none⟩)) F308 rfl (rn_index1 Try.underlying47 inf3 ((F308.get rfl).trans (by rw [hA311])) (F308.get rfl) (by omega : (0 : Int) ≤ (ne - 1 : Nat)) (by omega : ((ne - 1 : Nat) : Int) < ((ne : Nat) : Int))) fun _ F313 => ?_; clear F308
       refine qv 6 (.int .i64 (E.getD (ne - 1) 0)) F313 rfl (rn_load (isAgg_no Try.underlying3 rfl) (F313.get rfl) (Fl.cellAt hf298 hA311 (intVals_at (i := (ne - 1)) (by omega)))) fun _ F315 => ?_; clear F313
       refine qv 7 (.int .i64 ((max 1 ((x200.length + 111) / 112) : Nat) + (E.getD (ne - 1) 0))) F315 rfl (rn_add (F315.get rfl) (F315.get rfl) (by omega) (by omega)) fun _ F317 => ?_; clear F315
       refine qv 8 (.int .i64 ((max 1 ((x200.length + 111) / 112) : Nat) + (E.getD (ne - 1) 0))) F317 rfl (rn_assign (F317.get rfl)) fun _ F319 => ?_; clear F317
       refine wpList_nil ?_
       refine hK288 _ _ ?_
       clear hK288
       have F320 := (((((((((((((((((((((((F319.nil.c F319 82 rfl).c F319 18 rfl).c F319 73 rfl).c F319 17 rfl).c F319 16 rfl).c F319 15 rfl).c F319 63 rfl).c F319 62 rfl).c F319 61 rfl).c F319 60 rfl).c F319 13 rfl).c F319 59 rfl).c F319 12 rfl).c F319 11 rfl).c F319 50 rfl).c F319 10 rfl).c F319 9 rfl).c F319 29 rfl).c F319 8 rfl).c F319 3 rfl).c F319 2 rfl).c F319 1 rfl).c F319 0 rfl)
       clear F319
       refine wp_region_lit ?_
       refine qv 0 (.slice Ae ne ce) F320 rfl (rn_move (F320.get rfl)) fun _ F322 => ?_; clear F320
       refine qv 1 (.int .i64 ((max 1 ((x200.length + 111) / 112) : Nat) + (E.getD (ne - 1) 0))) F322 rfl (rn_move (F322.get rfl)) fun _ F324 => ?_; clear F322
       have hf325 := r297
       refine wpl_op (i := 2) rfl (o_new (fun g => (.slice (some ⟨g, 0, none⟩) 1 1)) [(.int .i64 ((max 1 ((x200.length + 111) / 112) : Nat) + (E.getD (ne - 1) 0)))] 3 F324 rfl rfl rfl rfl (rn_buildSlice (parts1 (F324.get rfl)) (by kernel_rfl)) ?_)
       intro g326 w327 a332 F333 z330 z331 b328 hx329; clear F324
       have nb334 := own_new (g := g326) hf325 (by omega)
       have r335 := (own_ext r297 hx329)
       have hf344 := r335
       have nb345 : some g326 ≠ (Value.slice Ae ne ce).ownBlock := nb334
       have z346 := b328.lt
       refine wpl_op (i := 3) rfl (o_appB (zs := intVals (E ++ ([((max 1 ((x200.length + 111) / 112) : Nat) + (E.getD (ne - 1) 0) : Int)]))) El47 F333 rfl rfl rfl rfl rfl (F333.get rfl) (F333.get rfl) hf344 (Fl.cel (Fl.blk (S := fun b => b = g326) (k := 1) (n := 1) (c := 1) (cs := intVals [((max 1 ((x200.length + 111) / 112) : Nat) + (E.getD (ne - 1) 0) : Int)]) b328 rfl (intVals_one _) (by omega) rfl)).2.2 (by omega) (by omega) (by omega) (intVals_app _ _) ?_)
       intro A336 c337 w338 a347 F348 r339 hg340 z341 z342 hnb343; clear F333; have z349 := hg340.size
       have nb350 := hnb343 g326 (by omega) nb345
       refine qv 4 (.slice A336 (ne + 1) c337) F348 rfl (rn_assign (F348.get rfl)) fun _ F352 => ?_; clear F348
       refine wpList_nil ?_
       refine hK198 _ _ ?_
       clear hK198
       have F353 := (((((((((((((((((((((((F352.nil.c F352 82 rfl).c F352 18 rfl).c F352 73 rfl).c F352 17 rfl).c F352 16 rfl).c F352 15 rfl).c F352 63 rfl).c F352 62 rfl).c F352 61 rfl).c F352 60 rfl).c F352 13 rfl).c F352 59 rfl).c F352 12 rfl).c F352 11 rfl).c F352 50 rfl).c F352 10 rfl).c F352 9 rfl).c F352 29 rfl).c F352 8 rfl).c F352 3 rfl).c F352 2 rfl).c F352 1 rfl).c F352 0 rfl)
       clear F352
       refine wp_region_lit ?_
       refine qv 0 (.int .i64 (k + 1 : Nat)) F353 rfl (rn_addN (a := k) (b := 1) (F353.get rfl) rfl (by omega)) fun _ F355 => ?_; clear F353
       refine qv 1 (.int .i64 (k + 1 : Nat)) F355 rfl (rn_move (F355.get rfl)) fun _ F357 => ?_; clear F355
       refine wpList_nil ?_
       have huq : usedL (Q ++ [x200]) = usedL Q + secs x200.length := by rw [usedL_app, usedL_cons, usedL_nil]; omega
       have hsec : secs x200.length = max 1 ((x200.length + 111) / 112) := rfl
       have d358 := (hf181.pres (Pres.row ((((((Pres.refl w171).ext hx232).ext hx248).grownN hg255 (fun h => by first | (simp only [Clip, ne_eq, not_true_eq_false, and_false, false_and] at h; done) | (have h2 := h.2; omega) | (rcases h.1 with (h | h) | h <;> first | (simp only [Clip, ne_eq, not_true_eq_false, and_false, false_and] at h; done) | omega | (simp only [Clip] at h; omega)) | (rcases h.1 with h | h <;> first | (simp only [Clip, ne_eq, not_true_eq_false, and_false, false_and] at h; done) | omega | (simp only [Clip] at h; omega)))).grownN hg271 (fun h => by first | (simp only [Clip, ne_eq, not_true_eq_false, and_false, false_and] at h; done) | (have h2 := h.2; omega) | (rcases h.1 with (h | h) | h <;> first | (simp only [Clip, ne_eq, not_true_eq_false, and_false, false_and] at h; done) | omega | (simp only [Clip] at h; omega)) | (rcases h.1 with h | h <;> first | (simp only [Clip, ne_eq, not_true_eq_false, and_false, false_and] at h; done) | omega | (simp only [Clip] at h; omega)))).ext hx329) hg340 hf344 (fun b hb h => by simp only [Clip] at h; omega)))
       have d359 := (hf182.pres (Pres.row ((((((Pres.refl w171).ext hx232).ext hx248).grownN hg255 (fun h => by first | (simp only [Clip, ne_eq, not_true_eq_false, and_false, false_and] at h; done) | (have h2 := h.2; omega) | (rcases h.1 with (h | h) | h <;> first | (simp only [Clip, ne_eq, not_true_eq_false, and_false, false_and] at h; done) | omega | (simp only [Clip] at h; omega)) | (rcases h.1 with h | h <;> first | (simp only [Clip, ne_eq, not_true_eq_false, and_false, false_and] at h; done) | omega | (simp only [Clip] at h; omega)))).grownN hg271 (fun h => by first | (simp only [Clip, ne_eq, not_true_eq_false, and_false, false_and] at h; done) | (have h2 := h.2; omega) | (rcases h.1 with (h | h) | h <;> first | (simp only [Clip, ne_eq, not_true_eq_false, and_false, false_and] at h; done) | omega | (simp only [Clip] at h; omega)) | (rcases h.1 with h | h <;> first | (simp only [Clip, ne_eq, not_true_eq_false, and_false, false_and] at h; done) | omega | (simp only [Clip] at h; omega)))).ext hx329) hg340 hf344 (fun b hb h => by simp only [Clip] at h; omega)))
       have hf360 := r339
       have d361 := (hf236.pres (Pres.rowO (((((Pres.refl w231).ext hx248).grownN hg255 (fun h => by first | (simp only [Clip, ne_eq, not_true_eq_false, and_false, false_and] at h; done) | (have h2 := h.2; omega) | (rcases h.1 with (h | h) | h <;> first | (simp only [Clip, ne_eq, not_true_eq_false, and_false, false_and] at h; done) | omega | (simp only [Clip] at h; omega)) | (rcases h.1 with h | h <;> first | (simp only [Clip, ne_eq, not_true_eq_false, and_false, false_and] at h; done) | omega | (simp only [Clip] at h; omega)))).grownN hg271 (fun h => by first | (simp only [Clip, ne_eq, not_true_eq_false, and_false, false_and] at h; done) | (have h2 := h.2; omega) | (rcases h.1 with (h | h) | h <;> first | (simp only [Clip, ne_eq, not_true_eq_false, and_false, false_and] at h; done) | omega | (simp only [Clip] at h; omega)) | (rcases h.1 with h | h <;> first | (simp only [Clip, ne_eq, not_true_eq_false, and_false, false_and] at h; done) | omega | (simp only [Clip] at h; omega)))).ext hx329) hg340 (fun b hb => hb.1.2.2.2)))
       have b362 := (grown_blk hf344 hg340 (((((b178.ext hx232).ext hx248).grownN hg255 (by omega)).grownN hg271 (by omega)).ext hx329) (by decide))
       have b363 := (grown_blk hf344 hg340 (b270.ext hx329) (by decide))
       refine ⟨⟨(k + 1), (Q ++ [x200]), A228, c229, A336, ne + 1, c337, E ++ ([((max 1 ((x200.length + 111) / 112) : Nat) + (E.getD (ne - 1) 0) : Int)]), ((((((((((((((((F357.nil.cons (q_get F357 (t := 62) rfl (by first | rfl | (congr 1; omega) | (congr 1; done)))).cons (q_get F357 (t := 61) rfl rfl)).cons (q_get F357 (t := 60) rfl rfl)).cons (q_get F357 (t := 13) rfl (by first | rfl | (congr 1; omega) | (congr 1; done)))).cons (q_get F357 (t := 59) rfl rfl)).cons (q_get F357 (t := 12) rfl rfl)).cons (q_get F357 (t := 11) rfl rfl)).cons (q_get F357 (t := 50) rfl rfl)).cons (q_get F357 (t := 10) rfl rfl)).cons (q_get F357 (t := 9) rfl rfl)).cons (q_get F357 (t := 29) rfl rfl)).cons (q_get F357 (t := 8) rfl rfl)).cons (q_get F357 (t := 3) rfl rfl)).cons (q_get F357 (t := 2) rfl rfl)).cons (q_get F357 (t := 1) rfl rfl)).cons (q_get F357 (t := 0) rfl rfl)), (by omega), (by rw [huq]; omega), (snoc_eq hp176 (by first | (rw [huq, huz (by omega), Nat.zero_add]; rfl) | (rw [huq]; omega))), (by rw [List.length_append, List.length_singleton]; omega), (ext_row (((((((Ext.refl w).trans hx173).trans hx232).trans hx248).grownN hg255 (by omega)).grownN hg271 (by omega)).trans hx329) hg340 hf344 (by omega)), b362, b363, r339, d358, d359, (RBss.sub (S := (Clip (fun b => Fr S w b ∧ b ≠ g31 ∧ b ≠ g135 ∧ some b ≠ (Value.slice Ae ne ce).ownBlock) w231)) d361 fun b h => by obtain ⟨h, hlt⟩ := h; exact ⟨⟨h.1, h.2.1, h.2.2.1, hnb343 b (by clear h; omega) (h.2.2.2)⟩, by clear h; omega⟩), (by omega), (by omega)⟩, ?_⟩
       rw [F357.get (t := 62) rfl, hL186.get (t := 62) rfl]; simp [intOf] <;> omega
      ·skip
       refine wp_cond_false (c_false F295 rfl (decide_eq_false hc296)) ?_
       refine wp_skip ?_
       refine hK288 _ _ ?_
       clear hK288
       refine wp_region_lit ?_
       refine qv 0 (.slice Ae ne ce) F295 rfl (rn_move (F295.get rfl)) fun _ F365 => ?_; clear F295
       refine qv 1 (.int .i64 (max 1 ((x200.length + 111) / 112) : Nat)) F365 rfl (rn_move (F365.get rfl)) fun _ F367 => ?_; clear F365
       have r368 := (own_grownT (own_grownT (own_ext (own_ext r180 hx232) hx248) b247 hg255 (by decide)) b272 hg271 (by decide))
       have hf369 := r368
       refine wpl_op (i := 2) rfl (o_new (fun g => (.slice (some ⟨g, 0, none⟩) 1 1)) [(.int .i64 (max 1 ((x200.length + 111) / 112) : Nat))] 3 F367 rfl rfl rfl rfl (rn_buildSlice (parts1 (F367.get rfl)) (by kernel_rfl)) ?_)
       intro g370 w371 a376 F377 z374 z375 b372 hx373; clear F367
       have nb378 := own_new (g := g370) hf369 (by omega)
       have r379 := (own_ext r368 hx373)
       have hf388 := r379
       have nb389 : some g370 ≠ (Value.slice Ae ne ce).ownBlock := nb378
       have z390 := b372.lt
       refine wpl_op (i := 3) rfl (o_appB (zs := intVals (E ++ ([((max 1 ((x200.length + 111) / 112) : Nat) : Int)]))) El47 F377 rfl rfl rfl rfl rfl (F377.get rfl) (F377.get rfl) hf388 (Fl.cel (Fl.blk (S := fun b => b = g370) (k := 1) (n := 1) (c := 1) (cs := intVals [((max 1 ((x200.length + 111) / 112) : Nat) : Int)]) b372 rfl (intVals_one _) (by omega) rfl)).2.2 (by omega) (by omega) (by omega) (intVals_app _ _) ?_)
       intro A380 c381 w382 a391 F392 r383 hg384 z385 z386 hnb387; clear F377; have z393 := hg384.size
       have nb394 := hnb387 g370 (by omega) nb389
       refine qv 4 (.slice A380 (ne + 1) c381) F392 rfl (rn_assign (F392.get rfl)) fun _ F396 => ?_; clear F392
       refine wpList_nil ?_
       refine hK198 _ _ ?_
       clear hK198
       have F397 := (((((((((((((((((((((((F396.nil.c F396 82 rfl).c F396 18 rfl).c F396 73 rfl).c F396 17 rfl).c F396 16 rfl).c F396 15 rfl).c F396 63 rfl).c F396 62 rfl).c F396 61 rfl).c F396 60 rfl).c F396 13 rfl).c F396 59 rfl).c F396 12 rfl).c F396 11 rfl).c F396 50 rfl).c F396 10 rfl).c F396 9 rfl).c F396 29 rfl).c F396 8 rfl).c F396 3 rfl).c F396 2 rfl).c F396 1 rfl).c F396 0 rfl)
       clear F396
       refine wp_region_lit ?_
       refine qv 0 (.int .i64 (k + 1 : Nat)) F397 rfl (rn_addN (a := k) (b := 1) (F397.get rfl) rfl (by omega)) fun _ F399 => ?_; clear F397
       refine qv 1 (.int .i64 (k + 1 : Nat)) F399 rfl (rn_move (F399.get rfl)) fun _ F401 => ?_; clear F399
       refine wpList_nil ?_
       have huq : usedL (Q ++ [x200]) = usedL Q + secs x200.length := by rw [usedL_app, usedL_cons, usedL_nil]; omega
       have hsec : secs x200.length = max 1 ((x200.length + 111) / 112) := rfl
       have d402 := (hf181.pres (Pres.row ((((((Pres.refl w171).ext hx232).ext hx248).grownN hg255 (fun h => by first | (simp only [Clip, ne_eq, not_true_eq_false, and_false, false_and] at h; done) | (have h2 := h.2; omega) | (rcases h.1 with (h | h) | h <;> first | (simp only [Clip, ne_eq, not_true_eq_false, and_false, false_and] at h; done) | omega | (simp only [Clip] at h; omega)) | (rcases h.1 with h | h <;> first | (simp only [Clip, ne_eq, not_true_eq_false, and_false, false_and] at h; done) | omega | (simp only [Clip] at h; omega)))).grownN hg271 (fun h => by first | (simp only [Clip, ne_eq, not_true_eq_false, and_false, false_and] at h; done) | (have h2 := h.2; omega) | (rcases h.1 with (h | h) | h <;> first | (simp only [Clip, ne_eq, not_true_eq_false, and_false, false_and] at h; done) | omega | (simp only [Clip] at h; omega)) | (rcases h.1 with h | h <;> first | (simp only [Clip, ne_eq, not_true_eq_false, and_false, false_and] at h; done) | omega | (simp only [Clip] at h; omega)))).ext hx373) hg384 hf388 (fun b hb h => by simp only [Clip] at h; omega)))
       have d403 := (hf182.pres (Pres.row ((((((Pres.refl w171).ext hx232).ext hx248).grownN hg255 (fun h => by first | (simp only [Clip, ne_eq, not_true_eq_false, and_false, false_and] at h; done) | (have h2 := h.2; omega) | (rcases h.1 with (h | h) | h <;> first | (simp only [Clip, ne_eq, not_true_eq_false, and_false, false_and] at h; done) | omega | (simp only [Clip] at h; omega)) | (rcases h.1 with h | h <;> first | (simp only [Clip, ne_eq, not_true_eq_false, and_false, false_and] at h; done) | omega | (simp only [Clip] at h; omega)))).grownN hg271 (fun h => by first | (simp only [Clip, ne_eq, not_true_eq_false, and_false, false_and] at h; done) | (have h2 := h.2; omega) | (rcases h.1 with (h | h) | h <;> first | (simp only [Clip, ne_eq, not_true_eq_false, and_false, false_and] at h; done) | omega | (simp only [Clip] at h; omega)) | (rcases h.1 with h | h <;> first | (simp only [Clip, ne_eq, not_true_eq_false, and_false, false_and] at h; done) | omega | (simp only [Clip] at h; omega)))).ext hx373) hg384 hf388 (fun b hb h => by simp only [Clip] at h; omega)))
       have hf404 := r383
       have d405 := (hf236.pres (Pres.rowO (((((Pres.refl w231).ext hx248).grownN hg255 (fun h => by first | (simp only [Clip, ne_eq, not_true_eq_false, and_false, false_and] at h; done) | (have h2 := h.2; omega) | (rcases h.1 with (h | h) | h <;> first | (simp only [Clip, ne_eq, not_true_eq_false, and_false, false_and] at h; done) | omega | (simp only [Clip] at h; omega)) | (rcases h.1 with h | h <;> first | (simp only [Clip, ne_eq, not_true_eq_false, and_false, false_and] at h; done) | omega | (simp only [Clip] at h; omega)))).grownN hg271 (fun h => by first | (simp only [Clip, ne_eq, not_true_eq_false, and_false, false_and] at h; done) | (have h2 := h.2; omega) | (rcases h.1 with (h | h) | h <;> first | (simp only [Clip, ne_eq, not_true_eq_false, and_false, false_and] at h; done) | omega | (simp only [Clip] at h; omega)) | (rcases h.1 with h | h <;> first | (simp only [Clip, ne_eq, not_true_eq_false, and_false, false_and] at h; done) | omega | (simp only [Clip] at h; omega)))).ext hx373) hg384 (fun b hb => hb.1.2.2.2)))
       have b406 := (grown_blk hf388 hg384 (((((b178.ext hx232).ext hx248).grownN hg255 (by omega)).grownN hg271 (by omega)).ext hx373) (by decide))
       have b407 := (grown_blk hf388 hg384 (b270.ext hx373) (by decide))
       refine ⟨⟨(k + 1), (Q ++ [x200]), A228, c229, A380, ne + 1, c381, E ++ ([((max 1 ((x200.length + 111) / 112) : Nat) : Int)]), ((((((((((((((((F401.nil.cons (q_get F401 (t := 62) rfl (by first | rfl | (congr 1; omega) | (congr 1; done)))).cons (q_get F401 (t := 61) rfl rfl)).cons (q_get F401 (t := 60) rfl rfl)).cons (q_get F401 (t := 13) rfl (by first | rfl | (congr 1; omega) | (congr 1; done)))).cons (q_get F401 (t := 59) rfl rfl)).cons (q_get F401 (t := 12) rfl rfl)).cons (q_get F401 (t := 11) rfl rfl)).cons (q_get F401 (t := 50) rfl rfl)).cons (q_get F401 (t := 10) rfl rfl)).cons (q_get F401 (t := 9) rfl rfl)).cons (q_get F401 (t := 29) rfl rfl)).cons (q_get F401 (t := 8) rfl rfl)).cons (q_get F401 (t := 3) rfl rfl)).cons (q_get F401 (t := 2) rfl rfl)).cons (q_get F401 (t := 1) rfl rfl)).cons (q_get F401 (t := 0) rfl rfl)), (by omega), (by rw [huq]; omega), (snoc_eq hp176 (by first | (rw [huq, huz (by omega), Nat.zero_add]; rfl) | (rw [huq]; omega))), (by rw [List.length_append, List.length_singleton]; omega), (ext_row (((((((Ext.refl w).trans hx173).trans hx232).trans hx248).grownN hg255 (by omega)).grownN hg271 (by omega)).trans hx373) hg384 hf388 (by omega)), b406, b407, r383, d402, d403, (RBss.sub (S := (Clip (fun b => Fr S w b ∧ b ≠ g31 ∧ b ≠ g135 ∧ some b ≠ (Value.slice Ae ne ce).ownBlock) w231)) d405 fun b h => by obtain ⟨h, hlt⟩ := h; exact ⟨⟨h.1, h.2.1, h.2.2.1, hnb387 b (by clear h; omega) (h.2.2.2)⟩, by clear h; omega⟩), (by omega), (by omega)⟩, ?_⟩
       rw [F401.get (t := 62) rfl, hL186.get (t := 62) rfl]; simp [intOf] <;> omega
     ·skip
      have hfit := hc222
      refine wp_region_lit ?_
      refine qv 0 (.agg #[(.int .i64 (40 : Nat)), (.slice Aq Q.length cq), (.int .i64 0)]) F220 rfl (rn_loadBlk (F220.get rfl) b179 Try.underlying29 rfl inf29) fun _ F409 => ?_; clear F220
      refine qv 1 (.slice A205 x200.length c206) F409 rfl (rn_move (F409.get rfl)) fun _ F411 => ?_; clear F409
      have hf412 := r180
      refine wpl_op (i := 2) rfl (o_call F411 rfl rfl rfl rfl (rn_call (args2 (F411.get rfl) (F411.get rfl)) rfl (by kernel_rfl)) (app_conv (app_at (S := (fun b => (Clip (fun b => Fr S w b ∧ b ≠ g31 ∧ b ≠ g135 ∧ some b ≠ (Value.slice Ae ne ce).ownBlock) w171) b ∨ (Clip S w) b)) (v := (.slice Aq Q.length cq)) (u := (.slice A205 x200.length c206)) (n := x200.length) (40 : Nat) Q 0 x200 _ (RBss.sub hf183 fun b hb => .inl hb) hqb.1 (by omega) (Fl.sub (RBs.fl hr210) fun b hb => .inr hb) (by omega)) (app_full hlc (by omega) (by omega))) ?_)
      rintro _ w416 ⟨A413, c414, rfl, hb415, hx417⟩
      refine ⟨_, rfl, ?_⟩; intro a418 F419; clear F411; have z420 := hx417.size
      obtain ⟨-, z422, z423⟩ := RBss.at hb415
      have hf421 : RBss (Clip (fun b => Fr S w b ∧ b ≠ g31 ∧ b ≠ g135 ∧ some b ≠ (Value.slice Ae ne ce).ownBlock) w416) w416 (.slice A413 ((@List.nil (List UInt8)).length) c414) (@List.nil (List UInt8)) := (RBss.clip hb415).sub fun b h => by obtain ⟨h, hlt⟩ := h; (rcases h with h | h; (focus ((rcases h with h | h; (focus (obtain ⟨h, hlt⟩ := h; exact ⟨⟨h.1, h.2.1, h.2.2.1, h.2.2.2⟩, by clear h; omega⟩)); (obtain ⟨h, hlt⟩ := h; have hS := h; clear h; exact ⟨⟨.inl hS, by omega, by omega, fun e => by have h5 := own_ge hf412 b e; have h6 := own_blk_lt hf412 b e; omega⟩, by omega⟩)))); (exact ⟨⟨.inr (by omega), by omega, by omega, fun e => by have h5 := own_ge hf412 b e; have h6 := own_blk_lt hf412 b e; omega⟩, by omega⟩))
      refine qv 3 (.tuple #[(.agg #[(.int .i64 0), (.slice A413 ((@List.nil (List UInt8)).length) c414), (.int .i64 0)]), (.int .i64 2)]) F419 rfl (rn_move (F419.get rfl)) fun _ F425 => ?_; clear F419
      refine qv 4 (.agg #[(.int .i64 0), (.slice A413 ((@List.nil (List UInt8)).length) c414), (.int .i64 0)]) F425 rfl (rn_extract (F425.get rfl) rfl) fun _ F427 => ?_; clear F425
      refine qv 5 (.int .i64 2) F427 rfl (rn_extract (F427.get rfl) rfl) fun _ F429 => ?_; clear F427
      refine wpl_op (i := 6) rfl (o_new (fun g => (.pointer (some ⟨g, 0, none⟩))) [(.int .i64 0), (.slice none 0 0), (.int .i64 0)] 29 F429 rfl rfl rfl rfl (by kernel_rfl) ?_)
      intro g430 w431 a436 F437 z434 z435 b432 hx433; clear F429
      refine wpl_op (i := 7) rfl (o_store (cells := [(.int .i64 0), (.slice A413 ((@List.nil (List UInt8)).length) c414), (.int .i64 0)]) F437 rfl rfl rfl rfl (F437.get rfl) (F437.get rfl) b432 inf29 rfl (by simp [Value.oneCell']) ?_)
      intro w438 b439 hg440; have z441 := hg440.size
      refine qv 8 (.int .i64 2) F437 rfl (rn_assign (F437.get rfl)) fun _ F443 => ?_; clear F437
      refine wpList_nil ?_
      refine hK221 _ _ ?_
      clear hK221
      have F444 := ((((((((((((((((((((F443.nil.c F443 17 rfl).c F443 16 rfl).c F443 15 rfl).c F443 63 rfl).c F443 62 rfl).c F443 61 rfl).c F443 60 rfl).c F443 13 rfl).c F443 59 rfl).c F443 12 rfl).c F443 11 rfl).c F443 50 rfl).c F443 10 rfl).c F443 9 rfl).c F443 29 rfl).c F443 8 rfl).c F443 3 rfl).c F443 2 rfl).c F443 1 rfl).c F443 0 rfl)
      clear F443
      refine wp_seq_k (fun K445 hK445 => ?_)
      refine wp_seq_k (fun K446 hK446 => ?_)
      refine wp_region_lit ?_
      refine qv 0 (.int .i64 2) F444 rfl (rn_move (F444.get rfl)) fun _ F448 => ?_; clear F444
      refine qv 1 (.bool true) F448 rfl (rn_neq' (F448.get rfl) rfl (by decide)) fun _ F450 => ?_; clear F448
      refine wpList_nil ?_
      refine hK446 _ _ ?_
      clear hK446
      refine wp_cond_true (c_true F450 rfl rfl) ?_
      refine wp_exit ?_
      refine exit_then ?_
      refine exit_past (by decide) ?_
      refine exit_then ?_
      refine exit_then ?_
      refine exit_here ?_
      refine hK159 _ _ ?_
      clear hK159
      refine wp_seq_k (fun K451 hK451 => ?_)
      by_cases hc452 : Q.length = 0
      ·skip
       have hq0 := hc452
       refine wp_region_lit ?_
       have b453 := (((b179.ext hx417).ext hx433).grownN hg440 (by omega))
       refine qv 0 (.agg #[(.int .i64 (40 : Nat)), (.slice Aq Q.length cq), (.int .i64 0)]) F450 rfl (rn_loadBlk (F450.get rfl) b453 Try.underlying29 rfl inf29) fun _ F455 => ?_; clear F450
       have b456 := (((b178.ext hx417).ext hx433).grownN hg440 (by omega))
       refine qv 1 (.agg #[(.slice A14 n40.sectors.length c15), (.slice B16 n40.pending.length e17), (.int .i64 n40.left), (.bool n40.stopped)]) F455 rfl (rn_loadBlk (F455.get rfl) b456 Try.underlying25 rfl inf25) fun _ F458 => ?_; clear F455
       have d459 := (hf183.pres ((((Pres.refl w171).ext hx417).ext hx433).grownN hg440 (fun h => by first | (simp only [Clip, ne_eq, not_true_eq_false, and_false, false_and] at h; done) | (have h2 := h.2; omega) | (rcases h.1 with (h | h) | h <;> first | (simp only [Clip, ne_eq, not_true_eq_false, and_false, false_and] at h; done) | omega | (simp only [Clip] at h; omega)) | (rcases h.1 with h | h <;> first | (simp only [Clip, ne_eq, not_true_eq_false, and_false, false_and] at h; done) | omega | (simp only [Clip] at h; omega)))))
       have d460 := (hf181.pres ((((Pres.refl w171).ext hx417).ext hx433).grownN hg440 (fun h => by first | (simp only [Clip, ne_eq, not_true_eq_false, and_false, false_and] at h; done) | (have h2 := h.2; omega) | (rcases h.1 with (h | h) | h <;> first | (simp only [Clip, ne_eq, not_true_eq_false, and_false, false_and] at h; done) | omega | (simp only [Clip] at h; omega)) | (rcases h.1 with h | h <;> first | (simp only [Clip, ne_eq, not_true_eq_false, and_false, false_and] at h; done) | omega | (simp only [Clip] at h; omega)))))
       refine wpl_op (i := 2) rfl (o_call F458 rfl rfl rfl rfl (rn_call (args2 (F458.get rfl) (F458.get rfl)) rfl (by kernel_rfl)) (sync_conv (sync9_at (S := (fun b => (Clip (fun b => Fr S w b ∧ b ≠ g31 ∧ b ≠ g135 ∧ some b ≠ (Value.slice Ae ne ce).ownBlock) w171) b ∨ (Clip (Fr (fun _ => False) w6) w20) b)) (v := (.slice Aq Q.length cq)) (u := (.agg #[(.slice A14 n40.sectors.length c15), (.slice B16 n40.pending.length e17), (.int .i64 n40.left), (.bool n40.stopped)])) (40 : Nat) Q 0 n40 _ (RBss.sub d459 fun b hb => .inl hb) hqb.1 (by omega) (RDk.sub d460 fun b hb => .inr hb)) (sync_6 (St.goes (R' := Q) (s := 0) st_40 (by decide) rfl rfl hp175) (by show (0 : Int) = ((Q.length : Nat) : Int); omega))) ?_)
       rintro _ w470 ⟨A461, c462, v463, rfl, hb464, hd465, hx471⟩
       obtain ⟨A466, c467, B468, e469, rfl, -, -⟩ := hd465.form
       have hd465 := hd465.clip
       refine ⟨_, rfl, ?_⟩; intro a472 F473; clear F458; have z474 := hx471.size
       obtain ⟨-, z476, z477⟩ := RBss.at hb464
       have hf475 : RBss (Clip (fun b => Fr S w b ∧ b ≠ g31 ∧ b ≠ g135 ∧ b ≠ g430) w470) w470 (.slice A461 Q.length c462) Q := (RBss.clip hb464).sub fun b h => by obtain ⟨h, hlt⟩ := h; (rcases h with h | h; (focus ((rcases h with h | h; (focus (obtain ⟨h, hlt⟩ := h; exact ⟨⟨h.1, h.2.1, h.2.2.1, by clear h; omega⟩, by clear h; omega⟩)); (obtain ⟨h, hlt⟩ := h; (rcases h with h | h; (focus (exact h.elim)); (exact ⟨⟨.inr (by omega), by omega, by omega, by omega⟩, by omega⟩)))))); (exact ⟨⟨.inr (by omega), by omega, by omega, by omega⟩, by omega⟩))
       have hd478 : RDk (Clip (fun b => Fr S w b ∧ b ≠ g31 ∧ b ≠ g135 ∧ b ≠ g430) w470) w470 (.agg #[(.slice A466 n40.sectors.length c467), (.slice B468 n40.pending.length e469), (.int .i64 n40.left), (.bool n40.stopped)]) n40 := RDk.sub hd465 fun b h => by obtain ⟨h, hlt⟩ := h; (rcases h with h | h; (focus ((rcases h with h | h; (focus (obtain ⟨h, hlt⟩ := h; exact ⟨⟨h.1, h.2.1, h.2.2.1, by clear h; omega⟩, by clear h; omega⟩)); (obtain ⟨h, hlt⟩ := h; (rcases h with h | h; (focus (exact h.elim)); (exact ⟨⟨.inr (by omega), by omega, by omega, by omega⟩, by omega⟩)))))); (exact ⟨⟨.inr (by omega), by omega, by omega, by omega⟩, by omega⟩))
       refine qv 3 (.tuple #[(.agg #[(.int .i64 (40 : Nat)), (.slice A461 Q.length c462), (.int .i64 0)]), (.agg #[(.slice A466 n40.sectors.length c467), (.slice B468 n40.pending.length e469), (.int .i64 n40.left), (.bool n40.stopped)]), (.int .i64 0)]) F473 rfl (rn_move (F473.get rfl)) fun _ F480 => ?_; clear F473
       refine qv 4 (.agg #[(.int .i64 (40 : Nat)), (.slice A461 Q.length c462), (.int .i64 0)]) F480 rfl (rn_extract (F480.get rfl) rfl) fun _ F482 => ?_; clear F480
       refine qv 5 (.agg #[(.slice A466 n40.sectors.length c467), (.slice B468 n40.pending.length e469), (.int .i64 n40.left), (.bool n40.stopped)]) F482 rfl (rn_extract (F482.get rfl) rfl) fun _ F484 => ?_; clear F482
       refine qv 6 (.int .i64 0) F484 rfl (rn_extract (F484.get rfl) rfl) fun _ F486 => ?_; clear F484
       refine wpl_op (i := 7) rfl (o_new (fun g => (.pointer (some ⟨g, 0, none⟩))) [(.int .i64 0), (.slice none 0 0), (.int .i64 0)] 29 F486 rfl rfl rfl rfl (by kernel_rfl) ?_)
       intro g487 w488 a493 F494 z491 z492 b489 hx490; clear F486
       refine wpl_op (i := 8) rfl (o_new (fun g => (.pointer (some ⟨g, 0, none⟩))) [(.slice none 0 0), (.slice none 0 0), (.int .i64 0), (.bool false)] 25 F494 rfl rfl rfl rfl (by kernel_rfl) ?_)
       intro g495 w496 a501 F502 z499 z500 b497 hx498; clear F494
       have b506 := (b489.ext hx498)
       refine wpl_op (i := 9) rfl (o_store (cells := [(.int .i64 (40 : Nat)), (.slice A461 Q.length c462), (.int .i64 0)]) F502 rfl rfl rfl rfl (F502.get rfl) (F502.get rfl) b506 inf29 rfl (by simp [Value.oneCell']) ?_)
       intro w503 b504 hg505; have z507 := hg505.size
       have b511 := (b497.grownN hg505 (by omega))
       refine wpl_op (i := 10) rfl (o_store (cells := [(.slice A466 n40.sectors.length c467), (.slice B468 n40.pending.length e469), (.int .i64 n40.left), (.bool n40.stopped)]) F502 rfl rfl rfl rfl (F502.get rfl) (F502.get rfl) b511 inf25 rfl (by simp [Value.oneCell']) ?_)
       intro w508 b509 hg510; have z512 := hg510.size
       refine qv 11 (.int .i64 0) F502 rfl (rn_assign (F502.get rfl)) fun _ F514 => ?_; clear F502
       refine wpList_nil ?_
       refine hK451 _ _ ?_
       clear hK451
       have F515 := (((((((((((((((((((((((F514.nil.c F514 21 rfl).c F514 20 rfl).c F514 73 rfl).c F514 17 rfl).c F514 16 rfl).c F514 15 rfl).c F514 63 rfl).c F514 62 rfl).c F514 61 rfl).c F514 60 rfl).c F514 13 rfl).c F514 59 rfl).c F514 12 rfl).c F514 11 rfl).c F514 50 rfl).c F514 10 rfl).c F514 9 rfl).c F514 29 rfl).c F514 8 rfl).c F514 3 rfl).c F514 2 rfl).c F514 1 rfl).c F514 0 rfl)
       clear F514
       refine wp_seq_k (fun K516 hK516 => ?_)
       refine wp_seq_k (fun K517 hK517 => ?_)
       refine wp_region_lit ?_
       refine qv 0 (.int .i64 0) F515 rfl (rn_move (F515.get rfl)) fun _ F519 => ?_; clear F515
       refine qv 1 (.bool false) F519 rfl (rn_neq' (F519.get rfl) rfl (by decide)) fun _ F521 => ?_; clear F519
       refine qv 2 (.bool false) F521 rfl (rn_move (F521.get rfl)) fun _ F523 => ?_; clear F521
       refine qg 3 (.slice Ae ne ce) F523 rfl (rn_move (F523.get rfl)) fun _ F525 => ?_; clear F523
       refine qg 4 (.int .i64 (ne : Nat)) F525 rfl (rn_len_slice Try.underlying47 (F525.get rfl)) fun _ F527 => ?_; clear F525
       refine qg 5 (.bool (decide (((ne : Nat) : Int) = (0 : Int)))) F527 rfl (rn_eql (F527.get rfl) rfl) fun _ F529 => ?_; clear F527
       refine qv 6 (.bool (decide (((ne : Nat) : Int) = (0 : Int)))) F529 rfl (rn_pickF (c_false F529 rfl rfl) (F529.get rfl)) fun _ F531 => ?_; clear F529
       refine wpList_nil ?_
       refine hK517 _ _ ?_
       clear hK517
       have F532 := ((((((((((((((((((((((((F531.nil.c F531 109 rfl).c F531 21 rfl).c F531 20 rfl).c F531 73 rfl).c F531 17 rfl).c F531 16 rfl).c F531 15 rfl).c F531 63 rfl).c F531 62 rfl).c F531 61 rfl).c F531 60 rfl).c F531 13 rfl).c F531 59 rfl).c F531 12 rfl).c F531 11 rfl).c F531 50 rfl).c F531 10 rfl).c F531 9 rfl).c F531 29 rfl).c F531 8 rfl).c F531 3 rfl).c F531 2 rfl).c F531 1 rfl).c F531 0 rfl)
       clear F531
       refine wp_cond_true (c_true F532 rfl ((decide_eq_true (by omega)) : decide (((ne : Nat) : Int) = (0 : Int)) = true)) ?_
       refine wp_seq_k (fun K534 hK534 => ?_)
       refine wp_region_lit ?_
       refine qv 0 (.int .i64 0) F532 rfl (rn_move (F532.get rfl)) fun _ F536 => ?_; clear F532
       refine qv 1 (.bool true) F536 rfl (rn_eql' (F536.get rfl) rfl (by decide)) fun _ F538 => ?_; clear F536
       refine qv 2 (.bool true) F538 rfl (rn_assign (F538.get rfl)) fun _ F540 => ?_; clear F538
       refine wpList_nil ?_
       refine hK534 _ _ ?_
       clear hK534
       refine wp_ret ?_
       refine ret_then ?_
       refine ret1 F540 rfl rfl ?_
       exact ⟨congrArg (fun b => Ending.returned (.bool b)) (rfl : true = true), ((((((((((Ext.refl w).trans hx173).trans hx417).trans hx433).grownN hg440 (by omega)).trans hx471).trans hx490).trans hx498).grownN hg505 (by omega)).grownN hg510 (by omega))⟩
      ·skip
       have hq0 := hc452
       refine wp_region_lit ?_
       have b541 := (((b179.ext hx417).ext hx433).grownN hg440 (by omega))
       refine qv 0 (.agg #[(.int .i64 (40 : Nat)), (.slice Aq Q.length cq), (.int .i64 0)]) F450 rfl (rn_loadBlk (F450.get rfl) b541 Try.underlying29 rfl inf29) fun _ F543 => ?_; clear F450
       have b544 := (((b178.ext hx417).ext hx433).grownN hg440 (by omega))
       refine qv 1 (.agg #[(.slice A14 n40.sectors.length c15), (.slice B16 n40.pending.length e17), (.int .i64 n40.left), (.bool n40.stopped)]) F543 rfl (rn_loadBlk (F543.get rfl) b544 Try.underlying25 rfl inf25) fun _ F546 => ?_; clear F543
       have d547 := (hf183.pres ((((Pres.refl w171).ext hx417).ext hx433).grownN hg440 (fun h => by first | (simp only [Clip, ne_eq, not_true_eq_false, and_false, false_and] at h; done) | (have h2 := h.2; omega) | (rcases h.1 with (h | h) | h <;> first | (simp only [Clip, ne_eq, not_true_eq_false, and_false, false_and] at h; done) | omega | (simp only [Clip] at h; omega)) | (rcases h.1 with h | h <;> first | (simp only [Clip, ne_eq, not_true_eq_false, and_false, false_and] at h; done) | omega | (simp only [Clip] at h; omega)))))
       have d548 := (hf181.pres ((((Pres.refl w171).ext hx417).ext hx433).grownN hg440 (fun h => by first | (simp only [Clip, ne_eq, not_true_eq_false, and_false, false_and] at h; done) | (have h2 := h.2; omega) | (rcases h.1 with (h | h) | h <;> first | (simp only [Clip, ne_eq, not_true_eq_false, and_false, false_and] at h; done) | omega | (simp only [Clip] at h; omega)) | (rcases h.1 with h | h <;> first | (simp only [Clip, ne_eq, not_true_eq_false, and_false, false_and] at h; done) | omega | (simp only [Clip] at h; omega)))))
       refine wpl_op (i := 2) rfl (o_call F546 rfl rfl rfl rfl (rn_call (args2 (F546.get rfl) (F546.get rfl)) rfl (by kernel_rfl)) (sync_conv (sync9_at (S := (fun b => (Clip (fun b => Fr S w b ∧ b ≠ g31 ∧ b ≠ g135 ∧ some b ≠ (Value.slice Ae ne ce).ownBlock) w171) b ∨ (Clip (Fr (fun _ => False) w6) w20) b)) (v := (.slice Aq Q.length cq)) (u := (.agg #[(.slice A14 n40.sectors.length c15), (.slice B16 n40.pending.length e17), (.int .i64 n40.left), (.bool n40.stopped)])) (40 : Nat) Q 0 n40 _ (RBss.sub d547 fun b hb => .inl hb) hqb.1 (by omega) (RDk.sub d548 fun b hb => .inr hb)) (dmg_sync (ne_nil_of hq0) hp175)) ?_)
       rintro _ w558 ⟨A549, c550, v551, rfl, hb552, hd553, hx559⟩
       obtain ⟨A554, c555, B556, e557, rfl, -, -⟩ := hd553.form
       have hd553 := hd553.clip
       refine ⟨_, rfl, ?_⟩; intro a560 F561; clear F546; have z562 := hx559.size
       obtain ⟨-, z564, z565⟩ := RBss.at hb552
       have hf563 : RBss (Clip (fun b => Fr S w b ∧ b ≠ g31 ∧ b ≠ g135 ∧ b ≠ g430) w558) w558 (.slice A549 Q.length c550) Q := (RBss.clip hb552).sub fun b h => by obtain ⟨h, hlt⟩ := h; (rcases h with h | h; (focus ((rcases h with h | h; (focus (obtain ⟨h, hlt⟩ := h; exact ⟨⟨h.1, h.2.1, h.2.2.1, by clear h; omega⟩, by clear h; omega⟩)); (obtain ⟨h, hlt⟩ := h; (rcases h with h | h; (focus (exact h.elim)); (exact ⟨⟨.inr (by omega), by omega, by omega, by omega⟩, by omega⟩)))))); (exact ⟨⟨.inr (by omega), by omega, by omega, by omega⟩, by omega⟩))
       have hd566 : RDk (Clip (fun b => Fr S w b ∧ b ≠ g31 ∧ b ≠ g135 ∧ b ≠ g430) w558) w558 (.agg #[(.slice A554 ((dmgD Q).sectors.length) c555), (.slice B556 ((dmgD Q).pending.length) e557), (.int .i64 ((dmgD Q).left)), (.bool ((dmgD Q).stopped))]) (dmgD Q) := RDk.sub hd553 fun b h => by obtain ⟨h, hlt⟩ := h; (rcases h with h | h; (focus ((rcases h with h | h; (focus (obtain ⟨h, hlt⟩ := h; exact ⟨⟨h.1, h.2.1, h.2.2.1, by clear h; omega⟩, by clear h; omega⟩)); (obtain ⟨h, hlt⟩ := h; (rcases h with h | h; (focus (exact h.elim)); (exact ⟨⟨.inr (by omega), by omega, by omega, by omega⟩, by omega⟩)))))); (exact ⟨⟨.inr (by omega), by omega, by omega, by omega⟩, by omega⟩))
       refine qv 3 (.tuple #[(.agg #[(.int .i64 (40 : Nat)), (.slice A549 Q.length c550), (.int .i64 (Q.length : Nat))]), (.agg #[(.slice A554 ((dmgD Q).sectors.length) c555), (.slice B556 ((dmgD Q).pending.length) e557), (.int .i64 ((dmgD Q).left)), (.bool ((dmgD Q).stopped))]), (.int .i64 0)]) F561 rfl (rn_move (F561.get rfl)) fun _ F568 => ?_; clear F561
       refine qv 4 (.agg #[(.int .i64 (40 : Nat)), (.slice A549 Q.length c550), (.int .i64 (Q.length : Nat))]) F568 rfl (rn_extract (F568.get rfl) rfl) fun _ F570 => ?_; clear F568
       refine qv 5 (.agg #[(.slice A554 ((dmgD Q).sectors.length) c555), (.slice B556 ((dmgD Q).pending.length) e557), (.int .i64 ((dmgD Q).left)), (.bool ((dmgD Q).stopped))]) F570 rfl (rn_extract (F570.get rfl) rfl) fun _ F572 => ?_; clear F570
       refine qv 6 (.int .i64 0) F572 rfl (rn_extract (F572.get rfl) rfl) fun _ F574 => ?_; clear F572
       refine wpl_op (i := 7) rfl (o_new (fun g => (.pointer (some ⟨g, 0, none⟩))) [(.int .i64 0), (.slice none 0 0), (.int .i64 0)] 29 F574 rfl rfl rfl rfl (by kernel_rfl) ?_)
       intro g575 w576 a581 F582 z579 z580 b577 hx578; clear F574
       refine wpl_op (i := 8) rfl (o_new (fun g => (.pointer (some ⟨g, 0, none⟩))) [(.slice none 0 0), (.slice none 0 0), (.int .i64 0), (.bool false)] 25 F582 rfl rfl rfl rfl (by kernel_rfl) ?_)
       intro g583 w584 a589 F590 z587 z588 b585 hx586; clear F582
       have b594 := (b577.ext hx586)
       refine wpl_op (i := 9) rfl (o_store (cells := [(.int .i64 (40 : Nat)), (.slice A549 Q.length c550), (.int .i64 (Q.length : Nat))]) F590 rfl rfl rfl rfl (F590.get rfl) (F590.get rfl) b594 inf29 rfl (by simp [Value.oneCell']) ?_)
       intro w591 b592 hg593; have z595 := hg593.size
       have b599 := (b585.grownN hg593 (by omega))
       refine wpl_op (i := 10) rfl (o_store (cells := [(.slice A554 ((dmgD Q).sectors.length) c555), (.slice B556 ((dmgD Q).pending.length) e557), (.int .i64 ((dmgD Q).left)), (.bool ((dmgD Q).stopped))]) F590 rfl rfl rfl rfl (F590.get rfl) (F590.get rfl) b599 inf25 rfl (by simp [Value.oneCell']) ?_)
       intro w596 b597 hg598; have z600 := hg598.size
       refine qv 11 (.int .i64 0) F590 rfl (rn_assign (F590.get rfl)) fun _ F602 => ?_; clear F590
       refine wpList_nil ?_
       refine hK451 _ _ ?_
       clear hK451
       have F603 := (((((((((((((((((((((((F602.nil.c F602 21 rfl).c F602 20 rfl).c F602 73 rfl).c F602 17 rfl).c F602 16 rfl).c F602 15 rfl).c F602 63 rfl).c F602 62 rfl).c F602 61 rfl).c F602 60 rfl).c F602 13 rfl).c F602 59 rfl).c F602 12 rfl).c F602 11 rfl).c F602 50 rfl).c F602 10 rfl).c F602 9 rfl).c F602 29 rfl).c F602 8 rfl).c F602 3 rfl).c F602 2 rfl).c F602 1 rfl).c F602 0 rfl)
       clear F602
       refine wp_seq_k (fun K604 hK604 => ?_)
       refine wp_seq_k (fun K605 hK605 => ?_)
       refine wp_region_lit ?_
       refine qv 0 (.int .i64 0) F603 rfl (rn_move (F603.get rfl)) fun _ F607 => ?_; clear F603
       refine qv 1 (.bool false) F607 rfl (rn_neq' (F607.get rfl) rfl (by decide)) fun _ F609 => ?_; clear F607
       refine qv 2 (.bool false) F609 rfl (rn_move (F609.get rfl)) fun _ F611 => ?_; clear F609
       refine qg 3 (.slice Ae ne ce) F611 rfl (rn_move (F611.get rfl)) fun _ F613 => ?_; clear F611
       refine qg 4 (.int .i64 (ne : Nat)) F613 rfl (rn_len_slice Try.underlying47 (F613.get rfl)) fun _ F615 => ?_; clear F613
       refine qg 5 (.bool (decide (((ne : Nat) : Int) = (0 : Int)))) F615 rfl (rn_eql (F615.get rfl) rfl) fun _ F617 => ?_; clear F615
       refine qv 6 (.bool (decide (((ne : Nat) : Int) = (0 : Int)))) F617 rfl (rn_pickF (c_false F617 rfl rfl) (F617.get rfl)) fun _ F619 => ?_; clear F617
       refine wpList_nil ?_
       refine hK605 _ _ ?_
       clear hK605
       have F620 := ((((((((((((((((((((((((F619.nil.c F619 109 rfl).c F619 21 rfl).c F619 20 rfl).c F619 73 rfl).c F619 17 rfl).c F619 16 rfl).c F619 15 rfl).c F619 63 rfl).c F619 62 rfl).c F619 61 rfl).c F619 60 rfl).c F619 13 rfl).c F619 59 rfl).c F619 12 rfl).c F619 11 rfl).c F619 50 rfl).c F619 10 rfl).c F619 9 rfl).c F619 29 rfl).c F619 8 rfl).c F619 3 rfl).c F619 2 rfl).c F619 1 rfl).c F619 0 rfl)
       clear F619
       refine wp_cond_false (c_false F620 rfl ((decide_eq_false (by omega)) : decide (((ne : Nat) : Int) = (0 : Int)) = false)) ?_
       refine wp_skip ?_
       refine hK604 _ _ ?_
       clear hK604
       refine wp_seq_k (fun K622 hK622 => ?_)
       have r623 := (own_grownT (own_grownT (own_ext (own_ext (own_ext (own_grownT (own_ext (own_ext r180 hx417) hx433) b432 hg440 (by decide)) hx559) hx578) hx586) b594 hg593 (by decide)) b599 hg598 (by decide))
       have hf624 := (Fl.own (S := fun b => w143.heap.size ≤ b) r623 (fun b hb => hb) (intVals_one _))
       have hne0 : 0 < ne := by omega
       have hlast : E.getD (ne - 1) 0 = ((usedL Q : Nat) : Int) := by rw [hp176, hp177]; exact ends_last (by omega)
       have hu1 : 0 < usedL Q := by have := usedL_len Q; omega
       refine wp_region_lit ?_
       refine qv 0 (.int .i64 sc) F620 rfl (rn_move (F620.get rfl)) fun _ F626 => ?_; clear F620
       refine qv 1 (.int .u64 ((sc % 18446744073709551616).toNat : Nat)) F626 rfl (rn_convW Try.underlying3 Try.underlying48 (F626.get rfl) (cvz_64 sc)) fun _ F628 => ?_; clear F626
       refine qv 2 (.slice Ae ne ce) F628 rfl (rn_move (F628.get rfl)) fun _ F630 => ?_; clear F628
       refine qv 3 (.slice Ae ne ce) F630 rfl (rn_move (F630.get rfl)) fun _ F632 => ?_; clear F630
       refine qv 4 (.int .i64 (ne : Nat)) F632 rfl (rn_len_slice Try.underlying47 (F632.get rfl)) fun _ F634 => ?_; clear F632
       refine qv 5 (.int .i64 (ne - 1 : Nat)) F634 rfl (rn_subN (a := ne) (b := 1) (F634.get rfl) rfl (by omega) (by omega)) fun _ F636 => ?_; clear F634
       obtain ⟨b637, o638, hA639, -⟩ := Fl.at hf624 (by omega)
       refine qv 6 (.pointer (some ⟨b637, o638 + (ne - 1), none⟩)) F636 rfl (rn_index1 Try.underlying47 inf3 ((F636.get rfl).trans (by rw [hA639])) (F636.get rfl) (by omega : (0 : Int) ≤ (ne - 1 : Nat)) (by omega : ((ne - 1 : Nat) : Int) < ((ne : Nat) : Int))) fun _ F641 => ?_; clear F636
       refine qv 7 (.int .i64 (E.getD (ne - 1) 0)) F641 rfl (rn_load (isAgg_no Try.underlying3 rfl) (F641.get rfl) (Fl.cellAt hf624 hA639 (intVals_at (i := (ne - 1)) (by omega)))) fun _ F643 => ?_; clear F641
       refine qv 8 (.int .u64 (((E.getD (ne - 1) 0) % 18446744073709551616).toNat : Nat)) F643 rfl (rn_convW Try.underlying3 Try.underlying48 (F643.get rfl) (cvz_64 (E.getD (ne - 1) 0))) fun _ F645 => ?_; clear F643
       have hmod := Nat.mod_lt ((sc % 18446744073709551616).toNat) (show 0 < ((E.getD (ne - 1) 0) % 18446744073709551616).toNat by omega)
       refine qv 9 (.int .u64 (((sc % 18446744073709551616).toNat) % (((E.getD (ne - 1) 0) % 18446744073709551616).toNat) : Nat)) F645 rfl (rn_remU (a := (sc % 18446744073709551616).toNat) (b := ((E.getD (ne - 1) 0) % 18446744073709551616).toNat) (F645.get rfl) (F645.get rfl) (by omega)) fun _ F647 => ?_; clear F645
       refine qv 10 (.int .i64 (((sc % 18446744073709551616).toNat) % (((E.getD (ne - 1) 0) % 18446744073709551616).toNat) : Nat)) F647 rfl (rn_conv Try.underlying48 Try.underlying3 (F647.get rfl) (IntWalk.i64_in _ (by omega))) fun _ F649 => ?_; clear F647
       refine qv 11 (.int .i64 (((sc % 18446744073709551616).toNat) % (((E.getD (ne - 1) 0) % 18446744073709551616).toNat) : Nat)) F649 rfl (rn_assign (F649.get rfl)) fun _ F651 => ?_; clear F649
       refine wpList_nil ?_
       refine hK622 _ _ ?_
       clear hK622
       have F652 := (((((((((((((((((((((((((F651.nil.c F651 22 rfl).c F651 109 rfl).c F651 21 rfl).c F651 20 rfl).c F651 73 rfl).c F651 17 rfl).c F651 16 rfl).c F651 15 rfl).c F651 63 rfl).c F651 62 rfl).c F651 61 rfl).c F651 60 rfl).c F651 13 rfl).c F651 59 rfl).c F651 12 rfl).c F651 11 rfl).c F651 50 rfl).c F651 10 rfl).c F651 9 rfl).c F651 29 rfl).c F651 8 rfl).c F651 3 rfl).c F651 2 rfl).c F651 1 rfl).c F651 0 rfl)
       clear F651
       refine wp_seq_k (fun K653 hK653 => ?_)
       refine wp_seq_k (fun K654 hK654 => ?_)
       obtain ⟨kk, hkk⟩ : ∃ kk, ((sc % 18446744073709551616).toNat) % (((E.getD (ne - 1) 0) % 18446744073709551616).toNat) = kk := ⟨_, rfl⟩
       rw [hkk] at F652 hmod
       have hkq : kk < usedL Q := by omega
       have hdl := dmg_len hp175
       refine wp_region_lit ?_
       refine qv 0 (.int .i64 (kk : Nat)) F652 rfl (rn_move (F652.get rfl)) fun _ F656 => ?_; clear F652
       refine qv 1 (.pointer (some ⟨g583, 0, none⟩)) F656 rfl (rn_field Try.underlying25 rfl (by kernel_rfl) (F656.get rfl) rfl) fun _ F658 => ?_; clear F656
       refine qv 2 (.slice A554 ((dmgD Q).sectors.length) c555) F658 rfl (rn_load (isAgg_no Try.underlying22 rfl) (F658.get rfl) (b597.rule.1 0)) fun _ F660 => ?_; clear F658
       refine qv 3 (.int .i64 ((dmgD Q).sectors.length : Nat)) F660 rfl (rn_len_slice Try.underlying22 (F660.get rfl)) fun _ F662 => ?_; clear F660
       refine qv 4 (.bool (decide ((((dmgD Q).sectors.length : Nat) : Int) ≤ ((kk : Nat) : Int)))) F662 rfl (rn_geq (F662.get rfl) (F662.get rfl)) fun _ F664 => ?_; clear F662
       refine qv 5 (.bool (decide ((((dmgD Q).sectors.length : Nat) : Int) ≤ ((kk : Nat) : Int)))) F664 rfl (rn_move (F664.get rfl)) fun _ F666 => ?_; clear F664
       refine qg 6 (.slice Ae ne ce) F666 ((decide_eq_false (by omega)) : decide ((((dmgD Q).sectors.length : Nat) : Int) ≤ ((kk : Nat) : Int)) = false) (rn_move (F666.get rfl)) fun _ F669 => ?_; clear F666
       refine qg 7 (.int .i64 (ne : Nat)) F669 ((decide_eq_false (by omega)) : decide ((((dmgD Q).sectors.length : Nat) : Int) ≤ ((kk : Nat) : Int)) = false) (rn_len_slice Try.underlying47 (F669.get rfl)) fun _ F671 => ?_; clear F669
       refine qg 8 (.pointer (some ⟨g135, 1, none⟩)) F671 ((decide_eq_false (by omega)) : decide ((((dmgD Q).sectors.length : Nat) : Int) ≤ ((kk : Nat) : Int)) = false) (rn_field Try.underlying29 rfl (by kernel_rfl) (F671.get rfl) rfl) fun _ F673 => ?_; clear F671
       have b674 := (((((b541.ext hx559).ext hx578).ext hx586).grownN hg593 (by omega)).grownN hg598 (by omega))
       refine qg 9 (.slice Aq Q.length cq) F673 ((decide_eq_false (by omega)) : decide ((((dmgD Q).sectors.length : Nat) : Int) ≤ ((kk : Nat) : Int)) = false) (rn_load (isAgg_no Try.underlying22 rfl) (F673.get rfl) (b674.rule.1 1)) fun _ F676 => ?_; clear F673
       refine qg 10 (.int .i64 (Q.length : Nat)) F676 ((decide_eq_false (by omega)) : decide ((((dmgD Q).sectors.length : Nat) : Int) ≤ ((kk : Nat) : Int)) = false) (rn_len_slice Try.underlying22 (F676.get rfl)) fun _ F678 => ?_; clear F676
       refine qg 11 (.bool (decide (((Q.length : Nat) : Int) < ((ne : Nat) : Int)))) F678 ((decide_eq_false (by omega)) : decide ((((dmgD Q).sectors.length : Nat) : Int) ≤ ((kk : Nat) : Int)) = false) (rn_gtr (F678.get rfl) (F678.get rfl)) fun _ F680 => ?_; clear F678
       refine qv 12 (.bool (decide (((Q.length : Nat) : Int) < ((ne : Nat) : Int)))) F680 rfl (rn_pickF (c_false F680 rfl ((decide_eq_false (by omega)) : decide ((((dmgD Q).sectors.length : Nat) : Int) ≤ ((kk : Nat) : Int)) = false)) (F680.get rfl)) fun _ F682 => ?_; clear F680
       refine qv 13 (.bool (decide (((Q.length : Nat) : Int) < ((ne : Nat) : Int)))) F682 rfl (rn_move (F682.get rfl)) fun _ F684 => ?_; clear F682
       refine qg 14 (.pointer (some ⟨g583, 0, none⟩)) F684 ((decide_eq_false (by omega)) : decide (((Q.length : Nat) : Int) < ((ne : Nat) : Int)) = false) (rn_field Try.underlying25 rfl (by kernel_rfl) (F684.get rfl) rfl) fun _ F687 => ?_; clear F684
       refine qg 15 (.slice A554 ((dmgD Q).sectors.length) c555) F687 ((decide_eq_false (by omega)) : decide (((Q.length : Nat) : Int) < ((ne : Nat) : Int)) = false) (rn_load (isAgg_no Try.underlying22 rfl) (F687.get rfl) (b597.rule.1 0)) fun _ F689 => ?_; clear F687
       refine qg 16 (.int .i64 (kk : Nat)) F689 ((decide_eq_false (by omega)) : decide (((Q.length : Nat) : Int) < ((ne : Nat) : Int)) = false) (rn_move (F689.get rfl)) fun _ F691 => ?_; clear F689
       have d705 := ((RDk.len hd566).1.pres (((((Pres.refl w558).ext hx578).ext hx586).grownN hg593 (fun h => by first | (simp only [Clip, ne_eq, not_true_eq_false, and_false, false_and] at h; done) | (have h2 := h.2; omega) | (rcases h.1 with (h | h) | h <;> first | (simp only [Clip, ne_eq, not_true_eq_false, and_false, false_and] at h; done) | omega | (simp only [Clip] at h; omega)) | (rcases h.1 with h | h <;> first | (simp only [Clip, ne_eq, not_true_eq_false, and_false, false_and] at h; done) | omega | (simp only [Clip] at h; omega)))).grownN hg598 (fun h => by first | (simp only [Clip, ne_eq, not_true_eq_false, and_false, false_and] at h; done) | (have h2 := h.2; omega) | (rcases h.1 with (h | h) | h <;> first | (simp only [Clip, ne_eq, not_true_eq_false, and_false, false_and] at h; done) | omega | (simp only [Clip] at h; omega)) | (rcases h.1 with h | h <;> first | (simp only [Clip, ne_eq, not_true_eq_false, and_false, false_and] at h; done) | omega | (simp only [Clip] at h; omega)))))
       obtain ⟨x692, hi693, hm694⟩ := nth_of_lt (dmgD Q).sectors kk (by omega)
       obtain ⟨b695, o696, A697, c698, hA699, hl700, hc701, hr702, le703, le704⟩ := RBss.get d705 hi693
       have z706 : x692.length = 128 := dmg_128 x692 (List.mem_of_getElem? hi693)
       have z707 := mod8 (x692.getD 10 0); have z708 := and1_fact (x692.getD 10 0); have z709 := and2_fact (x692.getD 10 0); have z710 := UInt8.toNat_lt (x692.getD 10 0)
       refine qg 17 (.pointer (some ⟨b695, o696 + kk, none⟩)) F691 ((decide_eq_false (by omega)) : decide (((Q.length : Nat) : Int) < ((ne : Nat) : Int)) = false) (rn_index1 Try.underlying22 inf35 ((F691.get rfl).trans (by rw [hA699])) (F691.get rfl) (by omega : (0 : Int) ≤ (kk : Nat)) (by omega : ((kk : Nat) : Int) < (((dmgD Q).sectors.length : Nat) : Int))) fun _ F712 => ?_; clear F691
       refine qg 18 (.slice A697 x692.length c698) F712 ((decide_eq_false (by omega)) : decide (((Q.length : Nat) : Int) < ((ne : Nat) : Int)) = false) (rn_load (isAgg_no Try.underlying35 rfl) (F712.get rfl) (Ext.keep (Ext.refl w596) hc701)) fun _ F714 => ?_; clear F712
       refine qg 19 (.int .i64 (x692.length : Nat)) F714 ((decide_eq_false (by omega)) : decide (((Q.length : Nat) : Int) < ((ne : Nat) : Int)) = false) (rn_len_slice Try.underlying35 (F714.get rfl)) fun _ F716 => ?_; clear F714
       refine qg 20 (.bool (decide (((x692.length : Nat) : Int) ≠ (128 : Int)))) F716 ((decide_eq_false (by omega)) : decide (((Q.length : Nat) : Int) < ((ne : Nat) : Int)) = false) (rn_neq (F716.get rfl) rfl) fun _ F718 => ?_; clear F716
       refine qv 21 (.bool (decide (((x692.length : Nat) : Int) ≠ (128 : Int)))) F718 rfl (rn_pickF (c_false F718 rfl ((decide_eq_false (by omega)) : decide (((Q.length : Nat) : Int) < ((ne : Nat) : Int)) = false)) (F718.get rfl)) fun _ F720 => ?_; clear F718
       refine wpList_nil ?_
       refine hK654 _ _ ?_
       clear hK654
       have F721 := ((((((((((((((((((((((((((F720.nil.c F720 144 rfl).c F720 22 rfl).c F720 109 rfl).c F720 21 rfl).c F720 20 rfl).c F720 73 rfl).c F720 17 rfl).c F720 16 rfl).c F720 15 rfl).c F720 63 rfl).c F720 62 rfl).c F720 61 rfl).c F720 60 rfl).c F720 13 rfl).c F720 59 rfl).c F720 12 rfl).c F720 11 rfl).c F720 50 rfl).c F720 10 rfl).c F720 9 rfl).c F720 29 rfl).c F720 8 rfl).c F720 3 rfl).c F720 2 rfl).c F720 1 rfl).c F720 0 rfl)
       clear F720
       refine wp_cond_false (c_false F721 rfl ((decide_eq_false (by omega)) : decide (((x692.length : Nat) : Int) ≠ (128 : Int)) = false)) ?_
       refine wp_skip ?_
       refine hK653 _ _ ?_
       clear hK653
       refine wp_seq_k (fun K723 hK723 => ?_)
       refine wp_region_lit ?_
       refine wpl_op (i := 0) rfl (o_new (fun g => (.slice (some ⟨g, 0, none⟩) 0 0)) [] 5 F721 rfl rfl rfl rfl (rn_buildSlice (parts0 ) (by kernel_rfl)) ?_)
       intro g724 w725 a730 F731 z728 z729 b726 hx727; clear F721
       refine qv 1 (.pointer (some ⟨g583, 0, none⟩)) F731 rfl (rn_field Try.underlying25 rfl (by kernel_rfl) (F731.get rfl) rfl) fun _ F733 => ?_; clear F731
       have b734 := (b597.ext hx727)
       refine qv 2 (.slice A554 ((dmgD Q).sectors.length) c555) F733 rfl (rn_load (isAgg_no Try.underlying22 rfl) (F733.get rfl) (b734.rule.1 0)) fun _ F736 => ?_; clear F733
       refine qv 3 (.int .i64 (kk : Nat)) F736 rfl (rn_move (F736.get rfl)) fun _ F738 => ?_; clear F736
       have d752 := ((RDk.len hd566).1.pres ((((((Pres.refl w558).ext hx578).ext hx586).grownN hg593 (fun h => by first | (simp only [Clip, ne_eq, not_true_eq_false, and_false, false_and] at h; done) | (have h2 := h.2; omega) | (rcases h.1 with (h | h) | h <;> first | (simp only [Clip, ne_eq, not_true_eq_false, and_false, false_and] at h; done) | omega | (simp only [Clip] at h; omega)) | (rcases h.1 with h | h <;> first | (simp only [Clip, ne_eq, not_true_eq_false, and_false, false_and] at h; done) | omega | (simp only [Clip] at h; omega)))).grownN hg598 (fun h => by first | (simp only [Clip, ne_eq, not_true_eq_false, and_false, false_and] at h; done) | (have h2 := h.2; omega) | (rcases h.1 with (h | h) | h <;> first | (simp only [Clip, ne_eq, not_true_eq_false, and_false, false_and] at h; done) | omega | (simp only [Clip] at h; omega)) | (rcases h.1 with h | h <;> first | (simp only [Clip, ne_eq, not_true_eq_false, and_false, false_and] at h; done) | omega | (simp only [Clip] at h; omega)))).ext hx727))
       obtain ⟨b742, o743, A744, c745, hA746, hl747, hc748, hr749, le750, le751⟩ := RBss.get d752 hi693
       refine qv 4 (.pointer (some ⟨b742, o743 + kk, none⟩)) F738 rfl (rn_index1 Try.underlying22 inf35 ((F738.get rfl).trans (by rw [hA746])) (F738.get rfl) (by omega : (0 : Int) ≤ (kk : Nat)) (by omega : ((kk : Nat) : Int) < (((dmgD Q).sectors.length : Nat) : Int))) fun _ F754 => ?_; clear F738
       refine qv 5 (.slice A744 x692.length c745) F754 rfl (rn_load (isAgg_no Try.underlying35 rfl) (F754.get rfl) (Ext.keep (Ext.refl w725) hc748)) fun _ F756 => ?_; clear F754
       have hf766 := (own_blk0 (k := 1) b726)
       have r767 := (own_ext r623 hx727)
       have hf768 := r767
       have ap769 : Apart (.slice Ae ne ce) (.slice (some ⟨g724, 0, none⟩) 0 0) := (Apart.types r767 (own_blk0 (k := 1) b726) (by decide))
       refine wpl_op (i := 6) rfl (o_appB (zs := byteVals x692) El35 F756 rfl rfl rfl rfl rfl (F756.get rfl) (F756.get rfl) hf766 (Fl.cel (RBs.fl hr749)).2.2 (by omega) (by omega) (by omega) (List.nil_append _) ?_)
       intro A758 c759 w760 a770 F771 r761 hg762 z763 z764 hnb765; clear F756; have z772 := hg762.size
       have hg773 : w725.grownBy w760 (some g724) := hg762
       refine qv 7 (.slice A758 (0 + x692.length) c759) F771 rfl (rn_assign (F771.get rfl)) fun _ F775 => ?_; clear F771
       refine wpList_nil ?_
       refine hK723 _ _ ?_
       clear hK723
       have F776 := (((((((((((((((((((((((((((F775.nil.c F775 23 rfl).c F775 144 rfl).c F775 22 rfl).c F775 109 rfl).c F775 21 rfl).c F775 20 rfl).c F775 73 rfl).c F775 17 rfl).c F775 16 rfl).c F775 15 rfl).c F775 63 rfl).c F775 62 rfl).c F775 61 rfl).c F775 60 rfl).c F775 13 rfl).c F775 59 rfl).c F775 12 rfl).c F775 11 rfl).c F775 50 rfl).c F775 10 rfl).c F775 9 rfl).c F775 29 rfl).c F775 8 rfl).c F775 3 rfl).c F775 2 rfl).c F775 1 rfl).c F775 0 rfl)
       clear F775
       refine wp_seq_k (fun K777 hK777 => ?_)
       have hf778 := r761
       obtain ⟨gS, cS, eS, hgS1, hgS2, hgS3, hgS4⟩ := own_form hf778 (by omega)
       injection eS with eA eN eC; subst eA; subst eC
       have r779 := (own_grownR r767 hg762 ap769)
       have hf780 := r779
       have hnb781 := own_types hf778 hf780 (by decide) gS rfl
       refine wp_region_lit ?_
       refine qv 0 (.slice (some ⟨gS, 0, none⟩) (0 + x692.length) c759) F776 rfl (rn_move (F776.get rfl)) fun _ F783 => ?_; clear F776
       refine qv 1 (.int .i64 at0) F783 rfl (rn_move (F783.get rfl)) fun _ F785 => ?_; clear F783
       refine qv 2 (.int .u64 ((at0 % 18446744073709551616).toNat : Nat)) F785 rfl (rn_convW Try.underlying3 Try.underlying48 (F785.get rfl) (cvz_64 at0)) fun _ F787 => ?_; clear F785
       refine qv 3 (.int .u64 (((at0 % 18446744073709551616).toNat) % 128 : Nat)) F787 rfl (rn_remU (a := (at0 % 18446744073709551616).toNat) (b := 128) (F787.get rfl) rfl (by omega)) fun _ F789 => ?_; clear F787
       refine qv 4 (.pointer (some ⟨gS, 0 + (((at0 % 18446744073709551616).toNat) % 128), none⟩)) F789 rfl (rn_index1 Try.underlying35 inf5 (F789.get rfl) (F789.get rfl) (by omega : (0 : Int) ≤ (((at0 % 18446744073709551616).toNat) % 128 : Nat)) (by omega : ((((at0 % 18446744073709551616).toNat) % 128 : Nat) : Int) < ((0 + x692.length : Nat) : Int))) fun _ F791 => ?_; clear F789
       have hf792 := (Fl.own (S := fun b => g724 ≤ b) hf778 (fun b hb => hb) (byteVals_one _))
       refine qv 5 (.int .u8 ((x692.getD (((at0 % 18446744073709551616).toNat) % 128) 0).toNat : Nat)) F791 rfl (rn_load (isAgg_no Try.underlying5 rfl) (F791.get rfl) (Fl.cellAt hf792 rfl (byteVals_at (i := (((at0 % 18446744073709551616).toNat) % 128)) (by omega)))) fun _ F794 => ?_; clear F791
       refine qv 6 (.int .u8 (q.toNat : Nat)) F794 rfl (rn_move (F794.get rfl)) fun _ F796 => ?_; clear F794
       refine qv 7 (.int .u8 (((x692.getD (((at0 % 18446744073709551616).toNat) % 128) 0) ^^^ q).toNat : Nat)) F796 rfl (rn_xor8 (a := (x692.getD (((at0 % 18446744073709551616).toNat) % 128) 0)) (b := q) (F796.get rfl) (F796.get rfl)) fun _ F798 => ?_; clear F796
       refine qv 8 (.pointer (some ⟨gS, 0 + (((at0 % 18446744073709551616).toNat) % 128), none⟩)) F798 rfl (rn_index1 Try.underlying35 inf5 (F798.get rfl) (F798.get rfl) (by omega : (0 : Int) ≤ (((at0 % 18446744073709551616).toNat) % 128 : Nat)) (by omega : ((((at0 % 18446744073709551616).toNat) % 128 : Nat) : Int) < ((0 + x692.length : Nat) : Int))) fun _ F800 => ?_; clear F798
       refine wpl_op (i := 9) rfl (o_storeRow1 (j := (((at0 % 18446744073709551616).toNat) % 128)) (zs := byteVals (x692.set (((at0 % 18446744073709551616).toNat) % 128) ((x692.getD (((at0 % 18446744073709551616).toNat) % 128) 0) ^^^ q))) F800 rfl rfl rfl rfl (F800.get rfl) (F800.get rfl) hf778 inf5 (by omega) (by omega) rfl (byteVals_set rfl) ?_)
       intro w801 r802 hg803; have z804 := hg803.size
       refine wpList_nil ?_
       refine hK777 _ _ ?_
       clear hK777
       have F805 := (((((((((((((((((((((((((((F800.nil.c F800 23 rfl).c F800 144 rfl).c F800 22 rfl).c F800 109 rfl).c F800 21 rfl).c F800 20 rfl).c F800 73 rfl).c F800 17 rfl).c F800 16 rfl).c F800 15 rfl).c F800 63 rfl).c F800 62 rfl).c F800 61 rfl).c F800 60 rfl).c F800 13 rfl).c F800 59 rfl).c F800 12 rfl).c F800 11 rfl).c F800 50 rfl).c F800 10 rfl).c F800 9 rfl).c F800 29 rfl).c F800 8 rfl).c F800 3 rfl).c F800 2 rfl).c F800 1 rfl).c F800 0 rfl)
       clear F800
       refine wp_seq_k (fun K806 hK806 => ?_)
       refine wp_region_lit ?_
       have b807 := ((b734.grownN hg773 (by omega)).grownN hg803 (by omega))
       refine qv 0 (.agg #[(.slice A554 ((dmgD Q).sectors.length) c555), (.slice B556 ((dmgD Q).pending.length) e557), (.int .i64 ((dmgD Q).left)), (.bool ((dmgD Q).stopped))]) F805 rfl (rn_loadBlk (F805.get rfl) b807 Try.underlying25 rfl inf25) fun _ F809 => ?_; clear F805
       refine qv 1 (.int .i64 (kk : Nat)) F809 rfl (rn_move (F809.get rfl)) fun _ F811 => ?_; clear F809
       refine qv 2 (.slice (some ⟨gS, 0, none⟩) (0 + x692.length) c759) F811 rfl (rn_move (F811.get rfl)) fun _ F813 => ?_; clear F811
       have d814 := (hd566.pres ((((((((Pres.refl w558).ext hx578).ext hx586).grownN hg593 (fun h => by first | (simp only [Clip, ne_eq, not_true_eq_false, and_false, false_and] at h; done) | (have h2 := h.2; omega) | (rcases h.1 with (h | h) | h <;> first | (simp only [Clip, ne_eq, not_true_eq_false, and_false, false_and] at h; done) | omega | (simp only [Clip] at h; omega)) | (rcases h.1 with h | h <;> first | (simp only [Clip, ne_eq, not_true_eq_false, and_false, false_and] at h; done) | omega | (simp only [Clip] at h; omega)))).grownN hg598 (fun h => by first | (simp only [Clip, ne_eq, not_true_eq_false, and_false, false_and] at h; done) | (have h2 := h.2; omega) | (rcases h.1 with (h | h) | h <;> first | (simp only [Clip, ne_eq, not_true_eq_false, and_false, false_and] at h; done) | omega | (simp only [Clip] at h; omega)) | (rcases h.1 with h | h <;> first | (simp only [Clip, ne_eq, not_true_eq_false, and_false, false_and] at h; done) | omega | (simp only [Clip] at h; omega)))).ext hx727).grownN hg773 (fun h => by first | (simp only [Clip, ne_eq, not_true_eq_false, and_false, false_and] at h; done) | (have h2 := h.2; omega) | (rcases h.1 with (h | h) | h <;> first | (simp only [Clip, ne_eq, not_true_eq_false, and_false, false_and] at h; done) | omega | (simp only [Clip] at h; omega)) | (rcases h.1 with h | h <;> first | (simp only [Clip, ne_eq, not_true_eq_false, and_false, false_and] at h; done) | omega | (simp only [Clip] at h; omega)))).grownN hg803 (fun h => by first | (simp only [Clip, ne_eq, not_true_eq_false, and_false, false_and] at h; done) | (have h2 := h.2; omega) | (rcases h.1 with (h | h) | h <;> first | (simp only [Clip, ne_eq, not_true_eq_false, and_false, false_and] at h; done) | omega | (simp only [Clip] at h; omega)) | (rcases h.1 with h | h <;> first | (simp only [Clip, ne_eq, not_true_eq_false, and_false, false_and] at h; done) | omega | (simp only [Clip] at h; omega)))))
       have hf815 := (Fl.own (S := fun b => g724 ≤ b) r802 (fun b hb => hb) (byteVals_one _))
       have he816 := dmg_write hp175 (k := kk) (by omega) (s := x692.set (((at0 % 18446744073709551616).toNat) % 128) ((x692.getD (((at0 % 18446744073709551616).toNat) % 128) 0) ^^^ q)) (by rw [List.length_set]; omega)
       have hdo := dmg_open hp175 hkq hi693 (i := (((at0 % 18446744073709551616).toNat) % 128)) (c := ((x692.getD (((at0 % 18446744073709551616).toNat) % 128) 0) ^^^ q)) (by omega) (xor_ne hq) (s := x692.set (((at0 % 18446744073709551616).toNat) % 128) ((x692.getD (((at0 % 18446744073709551616).toNat) % 128) 0) ^^^ q)) rfl
       have hds := dmg_sync2 hp175 (k := kk) (by omega) (s := x692.set (((at0 % 18446744073709551616).toNat) % 128) ((x692.getD (((at0 % 18446744073709551616).toNat) % 128) 0) ^^^ q)) (by rw [List.length_set]; omega)
       refine wpl_op (i := 3) rfl (o_call F813 rfl rfl rfl rfl (rn_call (args3 (F813.get rfl) (F813.get rfl) (F813.get rfl)) rfl (by kernel_rfl)) (calls_conv (write_any (S := (fun b => (Clip (fun b => Fr S w b ∧ b ≠ g31 ∧ b ≠ g135 ∧ b ≠ g430) w558) b ∨ (fun b => g724 ≤ b) b)) _ _ (dmgD Q) _ (x692.set (((at0 % 18446744073709551616).toNat) % 128) ((x692.getD (((at0 % 18446744073709551616).toNat) % 128) 0) ^^^ q)) _ (d814.sub (fun _ => Or.inl)) ((Fl.rbs hf815).sub (fun _ => Or.inr))) (congrArg Prod.fst he816) (congrArg Prod.snd he816)) ?_)
       rintro _ w823 ⟨v822, rfl, hd821, hx824⟩
       obtain ⟨A817, c818, B819, e820, rfl, -, -⟩ := hd821.form
       have hd821 := hd821.clip
       refine ⟨_, rfl, ?_⟩; intro a825 F826; clear F813; have z827 := hx824.size
       refine qv 4 (.tuple #[(.agg #[(.slice A817 ((dmgW Q kk (x692.set (((at0 % 18446744073709551616).toNat) % 128) ((x692.getD (((at0 % 18446744073709551616).toNat) % 128) 0) ^^^ q))).sectors.length) c818), (.slice B819 ((dmgW Q kk (x692.set (((at0 % 18446744073709551616).toNat) % 128) ((x692.getD (((at0 % 18446744073709551616).toNat) % 128) 0) ^^^ q))).pending.length) e820), (.int .i64 ((dmgW Q kk (x692.set (((at0 % 18446744073709551616).toNat) % 128) ((x692.getD (((at0 % 18446744073709551616).toNat) % 128) 0) ^^^ q))).left)), (.bool ((dmgW Q kk (x692.set (((at0 % 18446744073709551616).toNat) % 128) ((x692.getD (((at0 % 18446744073709551616).toNat) % 128) 0) ^^^ q))).stopped))]), (.int .i64 0)]) F826 rfl (rn_move (F826.get rfl)) fun _ F829 => ?_; clear F826
       refine qv 5 (.agg #[(.slice A817 ((dmgW Q kk (x692.set (((at0 % 18446744073709551616).toNat) % 128) ((x692.getD (((at0 % 18446744073709551616).toNat) % 128) 0) ^^^ q))).sectors.length) c818), (.slice B819 ((dmgW Q kk (x692.set (((at0 % 18446744073709551616).toNat) % 128) ((x692.getD (((at0 % 18446744073709551616).toNat) % 128) 0) ^^^ q))).pending.length) e820), (.int .i64 ((dmgW Q kk (x692.set (((at0 % 18446744073709551616).toNat) % 128) ((x692.getD (((at0 % 18446744073709551616).toNat) % 128) 0) ^^^ q))).left)), (.bool ((dmgW Q kk (x692.set (((at0 % 18446744073709551616).toNat) % 128) ((x692.getD (((at0 % 18446744073709551616).toNat) % 128) 0) ^^^ q))).stopped))]) F829 rfl (rn_extract (F829.get rfl) rfl) fun _ F831 => ?_; clear F829
       refine qv 6 (.int .i64 0) F831 rfl (rn_extract (F831.get rfl) rfl) fun _ F833 => ?_; clear F831
       have b837 := (b807.ext hx824)
       refine wpl_op (i := 7) rfl (o_store (cells := [(.slice A817 ((dmgW Q kk (x692.set (((at0 % 18446744073709551616).toNat) % 128) ((x692.getD (((at0 % 18446744073709551616).toNat) % 128) 0) ^^^ q))).sectors.length) c818), (.slice B819 ((dmgW Q kk (x692.set (((at0 % 18446744073709551616).toNat) % 128) ((x692.getD (((at0 % 18446744073709551616).toNat) % 128) 0) ^^^ q))).pending.length) e820), (.int .i64 ((dmgW Q kk (x692.set (((at0 % 18446744073709551616).toNat) % 128) ((x692.getD (((at0 % 18446744073709551616).toNat) % 128) 0) ^^^ q))).left)), (.bool ((dmgW Q kk (x692.set (((at0 % 18446744073709551616).toNat) % 128) ((x692.getD (((at0 % 18446744073709551616).toNat) % 128) 0) ^^^ q))).stopped))]) F833 rfl rfl rfl rfl (F833.get rfl) (F833.get rfl) b837 inf25 rfl (by simp [Value.oneCell']) ?_)
       intro w834 b835 hg836; have z838 := hg836.size
       refine qv 8 (.int .i64 0) F833 rfl (rn_assign (F833.get rfl)) fun _ F840 => ?_; clear F833
       refine wpList_nil ?_
       refine hK806 _ _ ?_
       clear hK806
       have F841 := (((((((((((((((((((((((((((F840.nil.c F840 23 rfl).c F840 144 rfl).c F840 22 rfl).c F840 109 rfl).c F840 21 rfl).c F840 20 rfl).c F840 73 rfl).c F840 17 rfl).c F840 16 rfl).c F840 15 rfl).c F840 63 rfl).c F840 62 rfl).c F840 61 rfl).c F840 60 rfl).c F840 13 rfl).c F840 59 rfl).c F840 12 rfl).c F840 11 rfl).c F840 50 rfl).c F840 10 rfl).c F840 9 rfl).c F840 29 rfl).c F840 8 rfl).c F840 3 rfl).c F840 2 rfl).c F840 1 rfl).c F840 0 rfl)
       clear F840
       refine wp_seq_k (fun K842 hK842 => ?_)
       refine wp_region_lit ?_
       refine qv 0 (.agg #[(.slice A817 ((dmgW Q kk (x692.set (((at0 % 18446744073709551616).toNat) % 128) ((x692.getD (((at0 % 18446744073709551616).toNat) % 128) 0) ^^^ q))).sectors.length) c818), (.slice B819 ((dmgW Q kk (x692.set (((at0 % 18446744073709551616).toNat) % 128) ((x692.getD (((at0 % 18446744073709551616).toNat) % 128) 0) ^^^ q))).pending.length) e820), (.int .i64 ((dmgW Q kk (x692.set (((at0 % 18446744073709551616).toNat) % 128) ((x692.getD (((at0 % 18446744073709551616).toNat) % 128) 0) ^^^ q))).left)), (.bool ((dmgW Q kk (x692.set (((at0 % 18446744073709551616).toNat) % 128) ((x692.getD (((at0 % 18446744073709551616).toNat) % 128) 0) ^^^ q))).stopped))]) F841 rfl (rn_loadBlk (F841.get rfl) b835 Try.underlying25 rfl inf25) fun _ F844 => ?_; clear F841
       have d845 := (hd821.pres ((Pres.refl w823).grownN hg836 (fun h => by first | (simp only [Clip, ne_eq, not_true_eq_false, and_false, false_and] at h; done) | (have h2 := h.2; omega) | (rcases h.1 with (h | h) | h <;> first | (simp only [Clip, ne_eq, not_true_eq_false, and_false, false_and] at h; done) | omega | (simp only [Clip] at h; omega)) | (rcases h.1 with h | h <;> first | (simp only [Clip, ne_eq, not_true_eq_false, and_false, false_and] at h; done) | omega | (simp only [Clip] at h; omega)))))
       refine wpl_op (i := 1) rfl (o_call F844 rfl rfl rfl rfl (rn_call (args1 (F844.get rfl)) rfl (by kernel_rfl)) (calls_conv (sync_any (S := (Clip (Fr (fun b => (Clip (fun b => Fr S w b ∧ b ≠ g31 ∧ b ≠ g135 ∧ b ≠ g430) w558) b ∨ (fun b => g724 ≤ b) b) w801) w823)) _ (dmgW Q kk (x692.set (((at0 % 18446744073709551616).toNat) % 128) ((x692.getD (((at0 % 18446744073709551616).toNat) % 128) 0) ^^^ q))) _ d845) (congrArg Prod.fst hds) (congrArg Prod.snd hds)) ?_)
       rintro _ w852 ⟨v851, rfl, hd850, hx853⟩
       obtain ⟨A846, c847, B848, e849, rfl, -, -⟩ := hd850.form
       have hd850 := hd850.clip
       refine ⟨_, rfl, ?_⟩; intro a854 F855; clear F844; have z856 := hx853.size
       refine qv 2 (.tuple #[(.agg #[(.slice A846 ((dmgS Q kk (x692.set (((at0 % 18446744073709551616).toNat) % 128) ((x692.getD (((at0 % 18446744073709551616).toNat) % 128) 0) ^^^ q))).sectors.length) c847), (.slice B848 ((dmgS Q kk (x692.set (((at0 % 18446744073709551616).toNat) % 128) ((x692.getD (((at0 % 18446744073709551616).toNat) % 128) 0) ^^^ q))).pending.length) e849), (.int .i64 ((dmgS Q kk (x692.set (((at0 % 18446744073709551616).toNat) % 128) ((x692.getD (((at0 % 18446744073709551616).toNat) % 128) 0) ^^^ q))).left)), (.bool ((dmgS Q kk (x692.set (((at0 % 18446744073709551616).toNat) % 128) ((x692.getD (((at0 % 18446744073709551616).toNat) % 128) 0) ^^^ q))).stopped))]), (.int .i64 0)]) F855 rfl (rn_move (F855.get rfl)) fun _ F858 => ?_; clear F855
       refine qv 3 (.agg #[(.slice A846 ((dmgS Q kk (x692.set (((at0 % 18446744073709551616).toNat) % 128) ((x692.getD (((at0 % 18446744073709551616).toNat) % 128) 0) ^^^ q))).sectors.length) c847), (.slice B848 ((dmgS Q kk (x692.set (((at0 % 18446744073709551616).toNat) % 128) ((x692.getD (((at0 % 18446744073709551616).toNat) % 128) 0) ^^^ q))).pending.length) e849), (.int .i64 ((dmgS Q kk (x692.set (((at0 % 18446744073709551616).toNat) % 128) ((x692.getD (((at0 % 18446744073709551616).toNat) % 128) 0) ^^^ q))).left)), (.bool ((dmgS Q kk (x692.set (((at0 % 18446744073709551616).toNat) % 128) ((x692.getD (((at0 % 18446744073709551616).toNat) % 128) 0) ^^^ q))).stopped))]) F858 rfl (rn_extract (F858.get rfl) rfl) fun _ F860 => ?_; clear F858
       refine qv 4 (.int .i64 0) F860 rfl (rn_extract (F860.get rfl) rfl) fun _ F862 => ?_; clear F860
       have b866 := (b835.ext hx853)
       refine wpl_op (i := 5) rfl (o_store (cells := [(.slice A846 ((dmgS Q kk (x692.set (((at0 % 18446744073709551616).toNat) % 128) ((x692.getD (((at0 % 18446744073709551616).toNat) % 128) 0) ^^^ q))).sectors.length) c847), (.slice B848 ((dmgS Q kk (x692.set (((at0 % 18446744073709551616).toNat) % 128) ((x692.getD (((at0 % 18446744073709551616).toNat) % 128) 0) ^^^ q))).pending.length) e849), (.int .i64 ((dmgS Q kk (x692.set (((at0 % 18446744073709551616).toNat) % 128) ((x692.getD (((at0 % 18446744073709551616).toNat) % 128) 0) ^^^ q))).left)), (.bool ((dmgS Q kk (x692.set (((at0 % 18446744073709551616).toNat) % 128) ((x692.getD (((at0 % 18446744073709551616).toNat) % 128) 0) ^^^ q))).stopped))]) F862 rfl rfl rfl rfl (F862.get rfl) (F862.get rfl) b866 inf25 rfl (by simp [Value.oneCell']) ?_)
       intro w863 b864 hg865; have z867 := hg865.size
       refine qv 6 (.int .i64 0) F862 rfl (rn_assign (F862.get rfl)) fun _ F869 => ?_; clear F862
       refine wpList_nil ?_
       refine hK842 _ _ ?_
       clear hK842
       have F870 := ((((((((((((((((((((((((((((F869.nil.c F869 24 rfl).c F869 23 rfl).c F869 144 rfl).c F869 22 rfl).c F869 109 rfl).c F869 21 rfl).c F869 20 rfl).c F869 73 rfl).c F869 17 rfl).c F869 16 rfl).c F869 15 rfl).c F869 63 rfl).c F869 62 rfl).c F869 61 rfl).c F869 60 rfl).c F869 13 rfl).c F869 59 rfl).c F869 12 rfl).c F869 11 rfl).c F869 50 rfl).c F869 10 rfl).c F869 9 rfl).c F869 29 rfl).c F869 8 rfl).c F869 3 rfl).c F869 2 rfl).c F869 1 rfl).c F869 0 rfl)
       clear F869
       refine wp_seq_k (fun K871 hK871 => ?_)
       refine wp_region_lit ?_
       refine qv 0 (.agg #[(.slice A846 ((dmgS Q kk (x692.set (((at0 % 18446744073709551616).toNat) % 128) ((x692.getD (((at0 % 18446744073709551616).toNat) % 128) 0) ^^^ q))).sectors.length) c847), (.slice B848 ((dmgS Q kk (x692.set (((at0 % 18446744073709551616).toNat) % 128) ((x692.getD (((at0 % 18446744073709551616).toNat) % 128) 0) ^^^ q))).pending.length) e849), (.int .i64 ((dmgS Q kk (x692.set (((at0 % 18446744073709551616).toNat) % 128) ((x692.getD (((at0 % 18446744073709551616).toNat) % 128) 0) ^^^ q))).left)), (.bool ((dmgS Q kk (x692.set (((at0 % 18446744073709551616).toNat) % 128) ((x692.getD (((at0 % 18446744073709551616).toNat) % 128) 0) ^^^ q))).stopped))]) F870 rfl (rn_loadBlk (F870.get rfl) b864 Try.underlying25 rfl inf25) fun _ F873 => ?_; clear F870
       have d874 := (hd850.pres ((Pres.refl w852).grownN hg865 (fun h => by first | (simp only [Clip, ne_eq, not_true_eq_false, and_false, false_and] at h; done) | (have h2 := h.2; omega) | (rcases h.1 with (h | h) | h <;> first | (simp only [Clip, ne_eq, not_true_eq_false, and_false, false_and] at h; done) | omega | (simp only [Clip] at h; omega)) | (rcases h.1 with h | h <;> first | (simp only [Clip, ne_eq, not_true_eq_false, and_false, false_and] at h; done) | omega | (simp only [Clip] at h; omega)))))
       refine wpl_op (i := 1) rfl (o_call F873 rfl rfl rfl rfl (rn_call (args1 (F873.get rfl)) rfl (by kernel_rfl)) (open_conv (open_at (v := (.agg #[(.slice A846 ((dmgS Q kk (x692.set (((at0 % 18446744073709551616).toNat) % 128) ((x692.getD (((at0 % 18446744073709551616).toNat) % 128) 0) ^^^ q))).sectors.length) c847), (.slice B848 ((dmgS Q kk (x692.set (((at0 % 18446744073709551616).toNat) % 128) ((x692.getD (((at0 % 18446744073709551616).toNat) % 128) 0) ^^^ q))).pending.length) e849), (.int .i64 ((dmgS Q kk (x692.set (((at0 % 18446744073709551616).toNat) % 128) ((x692.getD (((at0 % 18446744073709551616).toNat) % 128) 0) ^^^ q))).left)), (.bool ((dmgS Q kk (x692.set (((at0 % 18446744073709551616).toNat) % 128) ((x692.getD (((at0 % 18446744073709551616).toNat) % 128) 0) ^^^ q))).stopped))])) (dmgS Q kk (x692.set (((at0 % 18446744073709551616).toNat) % 128) ((x692.getD (((at0 % 18446744073709551616).toNat) % 128) 0) ^^^ q))) _ d874) hdo) ?_)
       rintro _ w878 ⟨A875, c876, rfl, hb877, hx879⟩
       refine ⟨_, rfl, ?_⟩; intro a880 F881; clear F873; have z882 := hx879.size
       obtain ⟨-, z884, z885⟩ := RBss.at hb877
       have hf883 : RBss (Clip (fun b => Fr S w b ∧ b ≠ g31 ∧ b ≠ g135 ∧ b ≠ g430 ∧ b ≠ g575 ∧ b ≠ g583) w878) w878 (.slice A875 ((Q.take (ended kk Q)).length) c876) (Q.take (ended kk Q)) := (RBss.clip hb877).sub fun b h => by obtain ⟨h, hlt⟩ := h; have h : w863.heap.size ≤ b := h; exact ⟨⟨.inr (by omega), by omega, by omega, by omega, by omega, by omega⟩, by omega⟩
       refine qv 2 (.tuple #[(.agg #[(.int .i64 (40 : Nat)), (.slice A875 ((Q.take (ended kk Q)).length) c876), (.int .i64 ((Q.take (ended kk Q)).length : Nat))]), (.int .i64 0)]) F881 rfl (rn_move (F881.get rfl)) fun _ F887 => ?_; clear F881
       refine qv 3 (.agg #[(.int .i64 (40 : Nat)), (.slice A875 ((Q.take (ended kk Q)).length) c876), (.int .i64 ((Q.take (ended kk Q)).length : Nat))]) F887 rfl (rn_extract (F887.get rfl) rfl) fun _ F889 => ?_; clear F887
       refine qv 4 (.int .i64 0) F889 rfl (rn_extract (F889.get rfl) rfl) fun _ F891 => ?_; clear F889
       refine wpl_op (i := 5) rfl (o_new (fun g => (.pointer (some ⟨g, 0, none⟩))) [(.int .i64 0), (.slice none 0 0), (.int .i64 0)] 29 F891 rfl rfl rfl rfl (by kernel_rfl) ?_)
       intro g892 w893 a898 F899 z896 z897 b894 hx895; clear F891
       refine wpl_op (i := 6) rfl (o_store (cells := [(.int .i64 (40 : Nat)), (.slice A875 ((Q.take (ended kk Q)).length) c876), (.int .i64 ((Q.take (ended kk Q)).length : Nat))]) F899 rfl rfl rfl rfl (F899.get rfl) (F899.get rfl) b894 inf29 rfl (by simp [Value.oneCell']) ?_)
       intro w900 b901 hg902; have z903 := hg902.size
       refine qv 7 (.int .i64 0) F899 rfl (rn_assign (F899.get rfl)) fun _ F905 => ?_; clear F899
       refine wpList_nil ?_
       refine hK871 _ _ ?_
       clear hK871
       have F906 := ((((((((((((((((((((((((((((((F905.nil.c F905 26 rfl).c F905 25 rfl).c F905 24 rfl).c F905 23 rfl).c F905 144 rfl).c F905 22 rfl).c F905 109 rfl).c F905 21 rfl).c F905 20 rfl).c F905 73 rfl).c F905 17 rfl).c F905 16 rfl).c F905 15 rfl).c F905 63 rfl).c F905 62 rfl).c F905 61 rfl).c F905 60 rfl).c F905 13 rfl).c F905 59 rfl).c F905 12 rfl).c F905 11 rfl).c F905 50 rfl).c F905 10 rfl).c F905 9 rfl).c F905 29 rfl).c F905 8 rfl).c F905 3 rfl).c F905 2 rfl).c F905 1 rfl).c F905 0 rfl)
       clear F905
       refine wp_seq_k (fun K907 hK907 => ?_)
       refine wp_region_lit ?_
       refine qv 0 (.int .i64 0) F906 rfl (rn_assign rfl) fun _ F909 => ?_; clear F906
       refine wpList_nil ?_
       refine hK907 _ _ ?_
       clear hK907
       refine wp_seq_k (fun K910 hK910 => ?_)
       refine wp_block ?_
       have d911 := (hf181.pres (((((((((((((((((((Pres.refl w171).ext hx417).ext hx433).grownN hg440 (fun h => by first | (simp only [Clip, ne_eq, not_true_eq_false, and_false, false_and] at h; done) | (have h2 := h.2; omega) | (rcases h.1 with (h | h) | h <;> first | (simp only [Clip, ne_eq, not_true_eq_false, and_false, false_and] at h; done) | omega | (simp only [Clip] at h; omega)) | (rcases h.1 with h | h <;> first | (simp only [Clip, ne_eq, not_true_eq_false, and_false, false_and] at h; done) | omega | (simp only [Clip] at h; omega)))).ext hx559).ext hx578).ext hx586).grownN hg593 (fun h => by first | (simp only [Clip, ne_eq, not_true_eq_false, and_false, false_and] at h; done) | (have h2 := h.2; omega) | (rcases h.1 with (h | h) | h <;> first | (simp only [Clip, ne_eq, not_true_eq_false, and_false, false_and] at h; done) | omega | (simp only [Clip] at h; omega)) | (rcases h.1 with h | h <;> first | (simp only [Clip, ne_eq, not_true_eq_false, and_false, false_and] at h; done) | omega | (simp only [Clip] at h; omega)))).grownN hg598 (fun h => by first | (simp only [Clip, ne_eq, not_true_eq_false, and_false, false_and] at h; done) | (have h2 := h.2; omega) | (rcases h.1 with (h | h) | h <;> first | (simp only [Clip, ne_eq, not_true_eq_false, and_false, false_and] at h; done) | omega | (simp only [Clip] at h; omega)) | (rcases h.1 with h | h <;> first | (simp only [Clip, ne_eq, not_true_eq_false, and_false, false_and] at h; done) | omega | (simp only [Clip] at h; omega)))).ext hx727).grownN hg773 (fun h => by first | (simp only [Clip, ne_eq, not_true_eq_false, and_false, false_and] at h; done) | (have h2 := h.2; omega) | (rcases h.1 with (h | h) | h <;> first | (simp only [Clip, ne_eq, not_true_eq_false, and_false, false_and] at h; done) | omega | (simp only [Clip] at h; omega)) | (rcases h.1 with h | h <;> first | (simp only [Clip, ne_eq, not_true_eq_false, and_false, false_and] at h; done) | omega | (simp only [Clip] at h; omega)))).grownN hg803 (fun h => by first | (simp only [Clip, ne_eq, not_true_eq_false, and_false, false_and] at h; done) | (have h2 := h.2; omega) | (rcases h.1 with (h | h) | h <;> first | (simp only [Clip, ne_eq, not_true_eq_false, and_false, false_and] at h; done) | omega | (simp only [Clip] at h; omega)) | (rcases h.1 with h | h <;> first | (simp only [Clip, ne_eq, not_true_eq_false, and_false, false_and] at h; done) | omega | (simp only [Clip] at h; omega)))).ext hx824).grownN hg836 (fun h => by first | (simp only [Clip, ne_eq, not_true_eq_false, and_false, false_and] at h; done) | (have h2 := h.2; omega) | (rcases h.1 with (h | h) | h <;> first | (simp only [Clip, ne_eq, not_true_eq_false, and_false, false_and] at h; done) | omega | (simp only [Clip] at h; omega)) | (rcases h.1 with h | h <;> first | (simp only [Clip, ne_eq, not_true_eq_false, and_false, false_and] at h; done) | omega | (simp only [Clip] at h; omega)))).ext hx853).grownN hg865 (fun h => by first | (simp only [Clip, ne_eq, not_true_eq_false, and_false, false_and] at h; done) | (have h2 := h.2; omega) | (rcases h.1 with (h | h) | h <;> first | (simp only [Clip, ne_eq, not_true_eq_false, and_false, false_and] at h; done) | omega | (simp only [Clip] at h; omega)) | (rcases h.1 with h | h <;> first | (simp only [Clip, ne_eq, not_true_eq_false, and_false, false_and] at h; done) | omega | (simp only [Clip] at h; omega)))).ext hx879).ext hx895).grownN hg902 (fun h => by first | (simp only [Clip, ne_eq, not_true_eq_false, and_false, false_and] at h; done) | (have h2 := h.2; omega) | (rcases h.1 with (h | h) | h <;> first | (simp only [Clip, ne_eq, not_true_eq_false, and_false, false_and] at h; done) | omega | (simp only [Clip] at h; omega)) | (rcases h.1 with h | h <;> first | (simp only [Clip, ne_eq, not_true_eq_false, and_false, false_and] at h; done) | omega | (simp only [Clip] at h; omega)))))
       have d912 := (hf182.pres (((((((((((((((((((Pres.refl w171).ext hx417).ext hx433).grownN hg440 (fun h => by first | (simp only [Clip, ne_eq, not_true_eq_false, and_false, false_and] at h; done) | (have h2 := h.2; omega) | (rcases h.1 with (h | h) | h <;> first | (simp only [Clip, ne_eq, not_true_eq_false, and_false, false_and] at h; done) | omega | (simp only [Clip] at h; omega)) | (rcases h.1 with h | h <;> first | (simp only [Clip, ne_eq, not_true_eq_false, and_false, false_and] at h; done) | omega | (simp only [Clip] at h; omega)))).ext hx559).ext hx578).ext hx586).grownN hg593 (fun h => by first | (simp only [Clip, ne_eq, not_true_eq_false, and_false, false_and] at h; done) | (have h2 := h.2; omega) | (rcases h.1 with (h | h) | h <;> first | (simp only [Clip, ne_eq, not_true_eq_false, and_false, false_and] at h; done) | omega | (simp only [Clip] at h; omega)) | (rcases h.1 with h | h <;> first | (simp only [Clip, ne_eq, not_true_eq_false, and_false, false_and] at h; done) | omega | (simp only [Clip] at h; omega)))).grownN hg598 (fun h => by first | (simp only [Clip, ne_eq, not_true_eq_false, and_false, false_and] at h; done) | (have h2 := h.2; omega) | (rcases h.1 with (h | h) | h <;> first | (simp only [Clip, ne_eq, not_true_eq_false, and_false, false_and] at h; done) | omega | (simp only [Clip] at h; omega)) | (rcases h.1 with h | h <;> first | (simp only [Clip, ne_eq, not_true_eq_false, and_false, false_and] at h; done) | omega | (simp only [Clip] at h; omega)))).ext hx727).grownN hg773 (fun h => by first | (simp only [Clip, ne_eq, not_true_eq_false, and_false, false_and] at h; done) | (have h2 := h.2; omega) | (rcases h.1 with (h | h) | h <;> first | (simp only [Clip, ne_eq, not_true_eq_false, and_false, false_and] at h; done) | omega | (simp only [Clip] at h; omega)) | (rcases h.1 with h | h <;> first | (simp only [Clip, ne_eq, not_true_eq_false, and_false, false_and] at h; done) | omega | (simp only [Clip] at h; omega)))).grownN hg803 (fun h => by first | (simp only [Clip, ne_eq, not_true_eq_false, and_false, false_and] at h; done) | (have h2 := h.2; omega) | (rcases h.1 with (h | h) | h <;> first | (simp only [Clip, ne_eq, not_true_eq_false, and_false, false_and] at h; done) | omega | (simp only [Clip] at h; omega)) | (rcases h.1 with h | h <;> first | (simp only [Clip, ne_eq, not_true_eq_false, and_false, false_and] at h; done) | omega | (simp only [Clip] at h; omega)))).ext hx824).grownN hg836 (fun h => by first | (simp only [Clip, ne_eq, not_true_eq_false, and_false, false_and] at h; done) | (have h2 := h.2; omega) | (rcases h.1 with (h | h) | h <;> first | (simp only [Clip, ne_eq, not_true_eq_false, and_false, false_and] at h; done) | omega | (simp only [Clip] at h; omega)) | (rcases h.1 with h | h <;> first | (simp only [Clip, ne_eq, not_true_eq_false, and_false, false_and] at h; done) | omega | (simp only [Clip] at h; omega)))).ext hx853).grownN hg865 (fun h => by first | (simp only [Clip, ne_eq, not_true_eq_false, and_false, false_and] at h; done) | (have h2 := h.2; omega) | (rcases h.1 with (h | h) | h <;> first | (simp only [Clip, ne_eq, not_true_eq_false, and_false, false_and] at h; done) | omega | (simp only [Clip] at h; omega)) | (rcases h.1 with h | h <;> first | (simp only [Clip, ne_eq, not_true_eq_false, and_false, false_and] at h; done) | omega | (simp only [Clip] at h; omega)))).ext hx879).ext hx895).grownN hg902 (fun h => by first | (simp only [Clip, ne_eq, not_true_eq_false, and_false, false_and] at h; done) | (have h2 := h.2; omega) | (rcases h.1 with (h | h) | h <;> first | (simp only [Clip, ne_eq, not_true_eq_false, and_false, false_and] at h; done) | omega | (simp only [Clip] at h; omega)) | (rcases h.1 with h | h <;> first | (simp only [Clip, ne_eq, not_true_eq_false, and_false, false_and] at h; done) | omega | (simp only [Clip] at h; omega)))))
       have d913 := (hf183.pres (((((((((((((((((((Pres.refl w171).ext hx417).ext hx433).grownN hg440 (fun h => by first | (simp only [Clip, ne_eq, not_true_eq_false, and_false, false_and] at h; done) | (have h2 := h.2; omega) | (rcases h.1 with (h | h) | h <;> first | (simp only [Clip, ne_eq, not_true_eq_false, and_false, false_and] at h; done) | omega | (simp only [Clip] at h; omega)) | (rcases h.1 with h | h <;> first | (simp only [Clip, ne_eq, not_true_eq_false, and_false, false_and] at h; done) | omega | (simp only [Clip] at h; omega)))).ext hx559).ext hx578).ext hx586).grownN hg593 (fun h => by first | (simp only [Clip, ne_eq, not_true_eq_false, and_false, false_and] at h; done) | (have h2 := h.2; omega) | (rcases h.1 with (h | h) | h <;> first | (simp only [Clip, ne_eq, not_true_eq_false, and_false, false_and] at h; done) | omega | (simp only [Clip] at h; omega)) | (rcases h.1 with h | h <;> first | (simp only [Clip, ne_eq, not_true_eq_false, and_false, false_and] at h; done) | omega | (simp only [Clip] at h; omega)))).grownN hg598 (fun h => by first | (simp only [Clip, ne_eq, not_true_eq_false, and_false, false_and] at h; done) | (have h2 := h.2; omega) | (rcases h.1 with (h | h) | h <;> first | (simp only [Clip, ne_eq, not_true_eq_false, and_false, false_and] at h; done) | omega | (simp only [Clip] at h; omega)) | (rcases h.1 with h | h <;> first | (simp only [Clip, ne_eq, not_true_eq_false, and_false, false_and] at h; done) | omega | (simp only [Clip] at h; omega)))).ext hx727).grownN hg773 (fun h => by first | (simp only [Clip, ne_eq, not_true_eq_false, and_false, false_and] at h; done) | (have h2 := h.2; omega) | (rcases h.1 with (h | h) | h <;> first | (simp only [Clip, ne_eq, not_true_eq_false, and_false, false_and] at h; done) | omega | (simp only [Clip] at h; omega)) | (rcases h.1 with h | h <;> first | (simp only [Clip, ne_eq, not_true_eq_false, and_false, false_and] at h; done) | omega | (simp only [Clip] at h; omega)))).grownN hg803 (fun h => by first | (simp only [Clip, ne_eq, not_true_eq_false, and_false, false_and] at h; done) | (have h2 := h.2; omega) | (rcases h.1 with (h | h) | h <;> first | (simp only [Clip, ne_eq, not_true_eq_false, and_false, false_and] at h; done) | omega | (simp only [Clip] at h; omega)) | (rcases h.1 with h | h <;> first | (simp only [Clip, ne_eq, not_true_eq_false, and_false, false_and] at h; done) | omega | (simp only [Clip] at h; omega)))).ext hx824).grownN hg836 (fun h => by first | (simp only [Clip, ne_eq, not_true_eq_false, and_false, false_and] at h; done) | (have h2 := h.2; omega) | (rcases h.1 with (h | h) | h <;> first | (simp only [Clip, ne_eq, not_true_eq_false, and_false, false_and] at h; done) | omega | (simp only [Clip] at h; omega)) | (rcases h.1 with h | h <;> first | (simp only [Clip, ne_eq, not_true_eq_false, and_false, false_and] at h; done) | omega | (simp only [Clip] at h; omega)))).ext hx853).grownN hg865 (fun h => by first | (simp only [Clip, ne_eq, not_true_eq_false, and_false, false_and] at h; done) | (have h2 := h.2; omega) | (rcases h.1 with (h | h) | h <;> first | (simp only [Clip, ne_eq, not_true_eq_false, and_false, false_and] at h; done) | omega | (simp only [Clip] at h; omega)) | (rcases h.1 with h | h <;> first | (simp only [Clip, ne_eq, not_true_eq_false, and_false, false_and] at h; done) | omega | (simp only [Clip] at h; omega)))).ext hx879).ext hx895).grownN hg902 (fun h => by first | (simp only [Clip, ne_eq, not_true_eq_false, and_false, false_and] at h; done) | (have h2 := h.2; omega) | (rcases h.1 with (h | h) | h <;> first | (simp only [Clip, ne_eq, not_true_eq_false, and_false, false_and] at h; done) | omega | (simp only [Clip] at h; omega)) | (rcases h.1 with h | h <;> first | (simp only [Clip, ne_eq, not_true_eq_false, and_false, false_and] at h; done) | omega | (simp only [Clip] at h; omega)))))
       have d914 := ((RBs.fl hr210).pres (((((((((((((((((((Pres.refl w171).ext hx417).ext hx433).grownN hg440 (fun h => by simp only [Clip] at h; omega)).ext hx559).ext hx578).ext hx586).grownN hg593 (fun h => by simp only [Clip] at h; omega)).grownN hg598 (fun h => by simp only [Clip] at h; omega)).ext hx727).grownN hg773 (fun h => by simp only [Clip] at h; omega)).grownN hg803 (fun h => by simp only [Clip] at h; omega)).ext hx824).grownN hg836 (fun h => by simp only [Clip] at h; omega)).ext hx853).grownN hg865 (fun h => by simp only [Clip] at h; omega)).ext hx879).ext hx895).grownN hg902 (fun h => by simp only [Clip] at h; omega)))
       have d915 := (hf421.pres ((((((((((((((((((Pres.refl w416).ext hx433).grownN hg440 (fun h => by first | (simp only [Clip, ne_eq, not_true_eq_false, and_false, false_and] at h; done) | (have h2 := h.2; omega) | (rcases h.1 with (h | h) | h <;> first | (simp only [Clip, ne_eq, not_true_eq_false, and_false, false_and] at h; done) | omega | (simp only [Clip] at h; omega)) | (rcases h.1 with h | h <;> first | (simp only [Clip, ne_eq, not_true_eq_false, and_false, false_and] at h; done) | omega | (simp only [Clip] at h; omega)))).ext hx559).ext hx578).ext hx586).grownN hg593 (fun h => by first | (simp only [Clip, ne_eq, not_true_eq_false, and_false, false_and] at h; done) | (have h2 := h.2; omega) | (rcases h.1 with (h | h) | h <;> first | (simp only [Clip, ne_eq, not_true_eq_false, and_false, false_and] at h; done) | omega | (simp only [Clip] at h; omega)) | (rcases h.1 with h | h <;> first | (simp only [Clip, ne_eq, not_true_eq_false, and_false, false_and] at h; done) | omega | (simp only [Clip] at h; omega)))).grownN hg598 (fun h => by first | (simp only [Clip, ne_eq, not_true_eq_false, and_false, false_and] at h; done) | (have h2 := h.2; omega) | (rcases h.1 with (h | h) | h <;> first | (simp only [Clip, ne_eq, not_true_eq_false, and_false, false_and] at h; done) | omega | (simp only [Clip] at h; omega)) | (rcases h.1 with h | h <;> first | (simp only [Clip, ne_eq, not_true_eq_false, and_false, false_and] at h; done) | omega | (simp only [Clip] at h; omega)))).ext hx727).grownN hg773 (fun h => by first | (simp only [Clip, ne_eq, not_true_eq_false, and_false, false_and] at h; done) | (have h2 := h.2; omega) | (rcases h.1 with (h | h) | h <;> first | (simp only [Clip, ne_eq, not_true_eq_false, and_false, false_and] at h; done) | omega | (simp only [Clip] at h; omega)) | (rcases h.1 with h | h <;> first | (simp only [Clip, ne_eq, not_true_eq_false, and_false, false_and] at h; done) | omega | (simp only [Clip] at h; omega)))).grownN hg803 (fun h => by first | (simp only [Clip, ne_eq, not_true_eq_false, and_false, false_and] at h; done) | (have h2 := h.2; omega) | (rcases h.1 with (h | h) | h <;> first | (simp only [Clip, ne_eq, not_true_eq_false, and_false, false_and] at h; done) | omega | (simp only [Clip] at h; omega)) | (rcases h.1 with h | h <;> first | (simp only [Clip, ne_eq, not_true_eq_false, and_false, false_and] at h; done) | omega | (simp only [Clip] at h; omega)))).ext hx824).grownN hg836 (fun h => by first | (simp only [Clip, ne_eq, not_true_eq_false, and_false, false_and] at h; done) | (have h2 := h.2; omega) | (rcases h.1 with (h | h) | h <;> first | (simp only [Clip, ne_eq, not_true_eq_false, and_false, false_and] at h; done) | omega | (simp only [Clip] at h; omega)) | (rcases h.1 with h | h <;> first | (simp only [Clip, ne_eq, not_true_eq_false, and_false, false_and] at h; done) | omega | (simp only [Clip] at h; omega)))).ext hx853).grownN hg865 (fun h => by first | (simp only [Clip, ne_eq, not_true_eq_false, and_false, false_and] at h; done) | (have h2 := h.2; omega) | (rcases h.1 with (h | h) | h <;> first | (simp only [Clip, ne_eq, not_true_eq_false, and_false, false_and] at h; done) | omega | (simp only [Clip] at h; omega)) | (rcases h.1 with h | h <;> first | (simp only [Clip, ne_eq, not_true_eq_false, and_false, false_and] at h; done) | omega | (simp only [Clip] at h; omega)))).ext hx879).ext hx895).grownN hg902 (fun h => by first | (simp only [Clip, ne_eq, not_true_eq_false, and_false, false_and] at h; done) | (have h2 := h.2; omega) | (rcases h.1 with (h | h) | h <;> first | (simp only [Clip, ne_eq, not_true_eq_false, and_false, false_and] at h; done) | omega | (simp only [Clip] at h; omega)) | (rcases h.1 with h | h <;> first | (simp only [Clip, ne_eq, not_true_eq_false, and_false, false_and] at h; done) | omega | (simp only [Clip] at h; omega)))))
       have d916 := (hf563.pres (((((((((((((((Pres.refl w558).ext hx578).ext hx586).grownN hg593 (fun h => by first | (simp only [Clip, ne_eq, not_true_eq_false, and_false, false_and] at h; done) | (have h2 := h.2; omega) | (rcases h.1 with (h | h) | h <;> first | (simp only [Clip, ne_eq, not_true_eq_false, and_false, false_and] at h; done) | omega | (simp only [Clip] at h; omega)) | (rcases h.1 with h | h <;> first | (simp only [Clip, ne_eq, not_true_eq_false, and_false, false_and] at h; done) | omega | (simp only [Clip] at h; omega)))).grownN hg598 (fun h => by first | (simp only [Clip, ne_eq, not_true_eq_false, and_false, false_and] at h; done) | (have h2 := h.2; omega) | (rcases h.1 with (h | h) | h <;> first | (simp only [Clip, ne_eq, not_true_eq_false, and_false, false_and] at h; done) | omega | (simp only [Clip] at h; omega)) | (rcases h.1 with h | h <;> first | (simp only [Clip, ne_eq, not_true_eq_false, and_false, false_and] at h; done) | omega | (simp only [Clip] at h; omega)))).ext hx727).grownN hg773 (fun h => by first | (simp only [Clip, ne_eq, not_true_eq_false, and_false, false_and] at h; done) | (have h2 := h.2; omega) | (rcases h.1 with (h | h) | h <;> first | (simp only [Clip, ne_eq, not_true_eq_false, and_false, false_and] at h; done) | omega | (simp only [Clip] at h; omega)) | (rcases h.1 with h | h <;> first | (simp only [Clip, ne_eq, not_true_eq_false, and_false, false_and] at h; done) | omega | (simp only [Clip] at h; omega)))).grownN hg803 (fun h => by first | (simp only [Clip, ne_eq, not_true_eq_false, and_false, false_and] at h; done) | (have h2 := h.2; omega) | (rcases h.1 with (h | h) | h <;> first | (simp only [Clip, ne_eq, not_true_eq_false, and_false, false_and] at h; done) | omega | (simp only [Clip] at h; omega)) | (rcases h.1 with h | h <;> first | (simp only [Clip, ne_eq, not_true_eq_false, and_false, false_and] at h; done) | omega | (simp only [Clip] at h; omega)))).ext hx824).grownN hg836 (fun h => by first | (simp only [Clip, ne_eq, not_true_eq_false, and_false, false_and] at h; done) | (have h2 := h.2; omega) | (rcases h.1 with (h | h) | h <;> first | (simp only [Clip, ne_eq, not_true_eq_false, and_false, false_and] at h; done) | omega | (simp only [Clip] at h; omega)) | (rcases h.1 with h | h <;> first | (simp only [Clip, ne_eq, not_true_eq_false, and_false, false_and] at h; done) | omega | (simp only [Clip] at h; omega)))).ext hx853).grownN hg865 (fun h => by first | (simp only [Clip, ne_eq, not_true_eq_false, and_false, false_and] at h; done) | (have h2 := h.2; omega) | (rcases h.1 with (h | h) | h <;> first | (simp only [Clip, ne_eq, not_true_eq_false, and_false, false_and] at h; done) | omega | (simp only [Clip] at h; omega)) | (rcases h.1 with h | h <;> first | (simp only [Clip, ne_eq, not_true_eq_false, and_false, false_and] at h; done) | omega | (simp only [Clip] at h; omega)))).ext hx879).ext hx895).grownN hg902 (fun h => by first | (simp only [Clip, ne_eq, not_true_eq_false, and_false, false_and] at h; done) | (have h2 := h.2; omega) | (rcases h.1 with (h | h) | h <;> first | (simp only [Clip, ne_eq, not_true_eq_false, and_false, false_and] at h; done) | omega | (simp only [Clip] at h; omega)) | (rcases h.1 with h | h <;> first | (simp only [Clip, ne_eq, not_true_eq_false, and_false, false_and] at h; done) | omega | (simp only [Clip] at h; omega)))))
       have d917 := (hd566.pres (((((((((((((((Pres.refl w558).ext hx578).ext hx586).grownN hg593 (fun h => by first | (simp only [Clip, ne_eq, not_true_eq_false, and_false, false_and] at h; done) | (have h2 := h.2; omega) | (rcases h.1 with (h | h) | h <;> first | (simp only [Clip, ne_eq, not_true_eq_false, and_false, false_and] at h; done) | omega | (simp only [Clip] at h; omega)) | (rcases h.1 with h | h <;> first | (simp only [Clip, ne_eq, not_true_eq_false, and_false, false_and] at h; done) | omega | (simp only [Clip] at h; omega)))).grownN hg598 (fun h => by first | (simp only [Clip, ne_eq, not_true_eq_false, and_false, false_and] at h; done) | (have h2 := h.2; omega) | (rcases h.1 with (h | h) | h <;> first | (simp only [Clip, ne_eq, not_true_eq_false, and_false, false_and] at h; done) | omega | (simp only [Clip] at h; omega)) | (rcases h.1 with h | h <;> first | (simp only [Clip, ne_eq, not_true_eq_false, and_false, false_and] at h; done) | omega | (simp only [Clip] at h; omega)))).ext hx727).grownN hg773 (fun h => by first | (simp only [Clip, ne_eq, not_true_eq_false, and_false, false_and] at h; done) | (have h2 := h.2; omega) | (rcases h.1 with (h | h) | h <;> first | (simp only [Clip, ne_eq, not_true_eq_false, and_false, false_and] at h; done) | omega | (simp only [Clip] at h; omega)) | (rcases h.1 with h | h <;> first | (simp only [Clip, ne_eq, not_true_eq_false, and_false, false_and] at h; done) | omega | (simp only [Clip] at h; omega)))).grownN hg803 (fun h => by first | (simp only [Clip, ne_eq, not_true_eq_false, and_false, false_and] at h; done) | (have h2 := h.2; omega) | (rcases h.1 with (h | h) | h <;> first | (simp only [Clip, ne_eq, not_true_eq_false, and_false, false_and] at h; done) | omega | (simp only [Clip] at h; omega)) | (rcases h.1 with h | h <;> first | (simp only [Clip, ne_eq, not_true_eq_false, and_false, false_and] at h; done) | omega | (simp only [Clip] at h; omega)))).ext hx824).grownN hg836 (fun h => by first | (simp only [Clip, ne_eq, not_true_eq_false, and_false, false_and] at h; done) | (have h2 := h.2; omega) | (rcases h.1 with (h | h) | h <;> first | (simp only [Clip, ne_eq, not_true_eq_false, and_false, false_and] at h; done) | omega | (simp only [Clip] at h; omega)) | (rcases h.1 with h | h <;> first | (simp only [Clip, ne_eq, not_true_eq_false, and_false, false_and] at h; done) | omega | (simp only [Clip] at h; omega)))).ext hx853).grownN hg865 (fun h => by first | (simp only [Clip, ne_eq, not_true_eq_false, and_false, false_and] at h; done) | (have h2 := h.2; omega) | (rcases h.1 with (h | h) | h <;> first | (simp only [Clip, ne_eq, not_true_eq_false, and_false, false_and] at h; done) | omega | (simp only [Clip] at h; omega)) | (rcases h.1 with h | h <;> first | (simp only [Clip, ne_eq, not_true_eq_false, and_false, false_and] at h; done) | omega | (simp only [Clip] at h; omega)))).ext hx879).ext hx895).grownN hg902 (fun h => by first | (simp only [Clip, ne_eq, not_true_eq_false, and_false, false_and] at h; done) | (have h2 := h.2; omega) | (rcases h.1 with (h | h) | h <;> first | (simp only [Clip, ne_eq, not_true_eq_false, and_false, false_and] at h; done) | omega | (simp only [Clip] at h; omega)) | (rcases h.1 with h | h <;> first | (simp only [Clip, ne_eq, not_true_eq_false, and_false, false_and] at h; done) | omega | (simp only [Clip] at h; omega)))))
       have d918 := ((RDk.len hd566).1.pres (((((((((((((((Pres.refl w558).ext hx578).ext hx586).grownN hg593 (fun h => by first | (simp only [Clip, ne_eq, not_true_eq_false, and_false, false_and] at h; done) | (have h2 := h.2; omega) | (rcases h.1 with (h | h) | h <;> first | (simp only [Clip, ne_eq, not_true_eq_false, and_false, false_and] at h; done) | omega | (simp only [Clip] at h; omega)) | (rcases h.1 with h | h <;> first | (simp only [Clip, ne_eq, not_true_eq_false, and_false, false_and] at h; done) | omega | (simp only [Clip] at h; omega)))).grownN hg598 (fun h => by first | (simp only [Clip, ne_eq, not_true_eq_false, and_false, false_and] at h; done) | (have h2 := h.2; omega) | (rcases h.1 with (h | h) | h <;> first | (simp only [Clip, ne_eq, not_true_eq_false, and_false, false_and] at h; done) | omega | (simp only [Clip] at h; omega)) | (rcases h.1 with h | h <;> first | (simp only [Clip, ne_eq, not_true_eq_false, and_false, false_and] at h; done) | omega | (simp only [Clip] at h; omega)))).ext hx727).grownN hg773 (fun h => by first | (simp only [Clip, ne_eq, not_true_eq_false, and_false, false_and] at h; done) | (have h2 := h.2; omega) | (rcases h.1 with (h | h) | h <;> first | (simp only [Clip, ne_eq, not_true_eq_false, and_false, false_and] at h; done) | omega | (simp only [Clip] at h; omega)) | (rcases h.1 with h | h <;> first | (simp only [Clip, ne_eq, not_true_eq_false, and_false, false_and] at h; done) | omega | (simp only [Clip] at h; omega)))).grownN hg803 (fun h => by first | (simp only [Clip, ne_eq, not_true_eq_false, and_false, false_and] at h; done) | (have h2 := h.2; omega) | (rcases h.1 with (h | h) | h <;> first | (simp only [Clip, ne_eq, not_true_eq_false, and_false, false_and] at h; done) | omega | (simp only [Clip] at h; omega)) | (rcases h.1 with h | h <;> first | (simp only [Clip, ne_eq, not_true_eq_false, and_false, false_and] at h; done) | omega | (simp only [Clip] at h; omega)))).ext hx824).grownN hg836 (fun h => by first | (simp only [Clip, ne_eq, not_true_eq_false, and_false, false_and] at h; done) | (have h2 := h.2; omega) | (rcases h.1 with (h | h) | h <;> first | (simp only [Clip, ne_eq, not_true_eq_false, and_false, false_and] at h; done) | omega | (simp only [Clip] at h; omega)) | (rcases h.1 with h | h <;> first | (simp only [Clip, ne_eq, not_true_eq_false, and_false, false_and] at h; done) | omega | (simp only [Clip] at h; omega)))).ext hx853).grownN hg865 (fun h => by first | (simp only [Clip, ne_eq, not_true_eq_false, and_false, false_and] at h; done) | (have h2 := h.2; omega) | (rcases h.1 with (h | h) | h <;> first | (simp only [Clip, ne_eq, not_true_eq_false, and_false, false_and] at h; done) | omega | (simp only [Clip] at h; omega)) | (rcases h.1 with h | h <;> first | (simp only [Clip, ne_eq, not_true_eq_false, and_false, false_and] at h; done) | omega | (simp only [Clip] at h; omega)))).ext hx879).ext hx895).grownN hg902 (fun h => by first | (simp only [Clip, ne_eq, not_true_eq_false, and_false, false_and] at h; done) | (have h2 := h.2; omega) | (rcases h.1 with (h | h) | h <;> first | (simp only [Clip, ne_eq, not_true_eq_false, and_false, false_and] at h; done) | omega | (simp only [Clip] at h; omega)) | (rcases h.1 with h | h <;> first | (simp only [Clip, ne_eq, not_true_eq_false, and_false, false_and] at h; done) | omega | (simp only [Clip] at h; omega)))))
       have d919 := (hd821.pres (((((((Pres.refl w823).grownN hg836 (fun h => by first | (simp only [Clip, ne_eq, not_true_eq_false, and_false, false_and] at h; done) | (have h2 := h.2; omega) | (rcases h.1 with (h | h) | h <;> first | (simp only [Clip, ne_eq, not_true_eq_false, and_false, false_and] at h; done) | omega | (simp only [Clip] at h; omega)) | (rcases h.1 with h | h <;> first | (simp only [Clip, ne_eq, not_true_eq_false, and_false, false_and] at h; done) | omega | (simp only [Clip] at h; omega)))).ext hx853).grownN hg865 (fun h => by first | (simp only [Clip, ne_eq, not_true_eq_false, and_false, false_and] at h; done) | (have h2 := h.2; omega) | (rcases h.1 with (h | h) | h <;> first | (simp only [Clip, ne_eq, not_true_eq_false, and_false, false_and] at h; done) | omega | (simp only [Clip] at h; omega)) | (rcases h.1 with h | h <;> first | (simp only [Clip, ne_eq, not_true_eq_false, and_false, false_and] at h; done) | omega | (simp only [Clip] at h; omega)))).ext hx879).ext hx895).grownN hg902 (fun h => by first | (simp only [Clip, ne_eq, not_true_eq_false, and_false, false_and] at h; done) | (have h2 := h.2; omega) | (rcases h.1 with (h | h) | h <;> first | (simp only [Clip, ne_eq, not_true_eq_false, and_false, false_and] at h; done) | omega | (simp only [Clip] at h; omega)) | (rcases h.1 with h | h <;> first | (simp only [Clip, ne_eq, not_true_eq_false, and_false, false_and] at h; done) | omega | (simp only [Clip] at h; omega)))))
       have d920 := (hd850.pres (((((Pres.refl w852).grownN hg865 (fun h => by first | (simp only [Clip, ne_eq, not_true_eq_false, and_false, false_and] at h; done) | (have h2 := h.2; omega) | (rcases h.1 with (h | h) | h <;> first | (simp only [Clip, ne_eq, not_true_eq_false, and_false, false_and] at h; done) | omega | (simp only [Clip] at h; omega)) | (rcases h.1 with h | h <;> first | (simp only [Clip, ne_eq, not_true_eq_false, and_false, false_and] at h; done) | omega | (simp only [Clip] at h; omega)))).ext hx879).ext hx895).grownN hg902 (fun h => by first | (simp only [Clip, ne_eq, not_true_eq_false, and_false, false_and] at h; done) | (have h2 := h.2; omega) | (rcases h.1 with (h | h) | h <;> first | (simp only [Clip, ne_eq, not_true_eq_false, and_false, false_and] at h; done) | omega | (simp only [Clip] at h; omega)) | (rcases h.1 with h | h <;> first | (simp only [Clip, ne_eq, not_true_eq_false, and_false, false_and] at h; done) | omega | (simp only [Clip] at h; omega)))))
       have d921 := (hf883.pres (((Pres.refl w878).ext hx895).grownN hg902 (fun h => by first | (simp only [Clip, ne_eq, not_true_eq_false, and_false, false_and] at h; done) | (have h2 := h.2; omega) | (rcases h.1 with (h | h) | h <;> first | (simp only [Clip, ne_eq, not_true_eq_false, and_false, false_and] at h; done) | omega | (simp only [Clip] at h; omega)) | (rcases h.1 with h | h <;> first | (simp only [Clip, ne_eq, not_true_eq_false, and_false, false_and] at h; done) | omega | (simp only [Clip] at h; omega)))))
       have b922 := (((((((((((((((b544.ext hx559).ext hx578).ext hx586).grownN hg593 (by omega)).grownN hg598 (by omega)).ext hx727).grownN hg773 (by omega)).grownN hg803 (by omega)).ext hx824).grownN hg836 (by omega)).ext hx853).grownN hg865 (by omega)).ext hx879).ext hx895).grownN hg902 (by omega))
       have b923 := ((((((((((b674.ext hx727).grownN hg773 (by omega)).grownN hg803 (by omega)).ext hx824).grownN hg836 (by omega)).ext hx853).grownN hg865 (by omega)).ext hx879).ext hx895).grownN hg902 (by omega))
       have b924 := (((((((((((((((b439.ext hx559).ext hx578).ext hx586).grownN hg593 (by omega)).grownN hg598 (by omega)).ext hx727).grownN hg773 (by omega)).grownN hg803 (by omega)).ext hx824).grownN hg836 (by omega)).ext hx853).grownN hg865 (by omega)).ext hx879).ext hx895).grownN hg902 (by omega))
       have b925 := (((((((((((b592.grownN hg598 (by omega)).ext hx727).grownN hg773 (by omega)).grownN hg803 (by omega)).ext hx824).grownN hg836 (by omega)).ext hx853).grownN hg865 (by omega)).ext hx879).ext hx895).grownN hg902 (by omega))
       have b926 := (((b864.ext hx879).ext hx895).grownN hg902 (by omega))
       have r927 := (own_grownT (own_ext (own_ext (own_grownT (own_ext (own_grownT (own_ext (own_grownB r779 hg803 hnb781) hx824) b837 hg836 (by decide)) hx853) b866 hg865 (by decide)) hx879) hx895) b894 hg902 (by decide))
       refine wp_loop (fun a' W => ∃ (j : Nat), Sl 211 [(0, (.slice A R.length c)), (1, (.int .i64 sc)), (2, (.int .i64 at0)), (3, (.int .u8 (q.toNat : Nat))), (8, (.bool false)), (29, (.bool false)), (9, (.pointer (some ⟨g31, 0, none⟩))), (10, (.int .i64 0)), (50, (.bool (decide (((q.toNat : Nat) : Int) = (0 : Int))))), (11, (.pointer (some ⟨g135, 0, none⟩))), (12, (.int .i64 0)), (59, (.bool false)), (13, (.slice Ae ne ce)), (60, (.slice A R.length c)), (61, (.int .i64 (R.length : Nat))), (62, (.int .i64 (k : Nat))), (63, (.bool (decide (((k : Nat) : Int) < ((R.length : Nat) : Int))))), (15, (.slice A205 x200.length c206)), (16, (.pointer (some ⟨g430, 0, none⟩))), (17, (.int .i64 2)), (73, (.bool true)), (20, (.pointer (some ⟨g583, 0, none⟩))), (21, (.int .i64 0)), (109, (.bool (decide (((ne : Nat) : Int) = (0 : Int))))), (22, (.int .i64 (kk : Nat))), (144, (.bool (decide (((x692.length : Nat) : Int) ≠ (128 : Int))))), (23, (.slice (some ⟨gS, 0, none⟩) (0 + x692.length) c759)), (24, (.int .i64 0)), (25, (.pointer (some ⟨g892, 0, none⟩))), (26, (.int .i64 0)), (27, (.int .i64 (j : Nat)))] a' ∧ j ≤ ne ∧ (∀ i, i < j → usedL (Q.take (i + 1)) ≤ kk) ∧ Ext w W ∧ Blk W g31 25 [(.slice A14 n40.sectors.length c15), (.slice B16 n40.pending.length e17), (.int .i64 n40.left), (.bool n40.stopped)] ∧ Blk W g135 29 [(.int .i64 (40 : Nat)), (.slice Aq Q.length cq), (.int .i64 0)] ∧ Blk W g430 29 [(.int .i64 0), (.slice A413 ((@List.nil (List UInt8)).length) c414), (.int .i64 0)] ∧ Blk W g575 29 [(.int .i64 (40 : Nat)), (.slice A549 Q.length c550), (.int .i64 (Q.length : Nat))] ∧ Blk W g583 25 [(.slice A846 ((dmgS Q kk (x692.set (((at0 % 18446744073709551616).toNat) % 128) ((x692.getD (((at0 % 18446744073709551616).toNat) % 128) 0) ^^^ q))).sectors.length) c847), (.slice B848 ((dmgS Q kk (x692.set (((at0 % 18446744073709551616).toNat) % 128) ((x692.getD (((at0 % 18446744073709551616).toNat) % 128) 0) ^^^ q))).pending.length) e849), (.int .i64 ((dmgS Q kk (x692.set (((at0 % 18446744073709551616).toNat) % 128) ((x692.getD (((at0 % 18446744073709551616).toNat) % 128) 0) ^^^ q))).left)), (.bool ((dmgS Q kk (x692.set (((at0 % 18446744073709551616).toNat) % 128) ((x692.getD (((at0 % 18446744073709551616).toNat) % 128) 0) ^^^ q))).stopped))] ∧ Blk W g892 29 [(.int .i64 (40 : Nat)), (.slice A875 ((Q.take (ended kk Q)).length) c876), (.int .i64 ((Q.take (ended kk Q)).length : Nat))] ∧ W.ownsRow w143.heap.size 3 1 (.slice Ae ne ce) ne (intVals E) ∧ RDk (Clip (Fr (fun _ => False) w6) w20) W (.agg #[(.slice A14 n40.sectors.length c15), (.slice B16 n40.pending.length e17), (.int .i64 n40.left), (.bool n40.stopped)]) n40 ∧ RBss (Clip (fun b => Fr S w b ∧ b ≠ g31) w121) W (.slice A118 0 c119) (@List.nil (List UInt8)) ∧ RBss (Clip (fun b => Fr S w b ∧ b ≠ g31 ∧ b ≠ g135 ∧ some b ≠ (Value.slice Ae ne ce).ownBlock) w171) W (.slice Aq Q.length cq) Q ∧ Fl (Clip S w) W 1 (.slice A205 x200.length c206) x200.length (byteVals x200) ∧ RBss (Clip (fun b => Fr S w b ∧ b ≠ g31 ∧ b ≠ g135 ∧ some b ≠ (Value.slice Ae ne ce).ownBlock) w416) W (.slice A413 ((@List.nil (List UInt8)).length) c414) (@List.nil (List UInt8)) ∧ RBss (Clip (fun b => Fr S w b ∧ b ≠ g31 ∧ b ≠ g135 ∧ b ≠ g430) w558) W (.slice A549 Q.length c550) Q ∧ RDk (Clip (fun b => Fr S w b ∧ b ≠ g31 ∧ b ≠ g135 ∧ b ≠ g430) w558) W (.agg #[(.slice A554 ((dmgD Q).sectors.length) c555), (.slice B556 ((dmgD Q).pending.length) e557), (.int .i64 ((dmgD Q).left)), (.bool ((dmgD Q).stopped))]) (dmgD Q) ∧ RBss (Clip (fun b => Fr S w b ∧ b ≠ g31 ∧ b ≠ g135 ∧ b ≠ g430) w558) W (.slice A554 ((dmgD Q).sectors.length) c555) ((dmgD Q).sectors) ∧ RDk (Clip (Fr (fun b => (Clip (fun b => Fr S w b ∧ b ≠ g31 ∧ b ≠ g135 ∧ b ≠ g430) w558) b ∨ (fun b => g724 ≤ b) b) w801) w823) W (.agg #[(.slice A817 ((dmgW Q kk (x692.set (((at0 % 18446744073709551616).toNat) % 128) ((x692.getD (((at0 % 18446744073709551616).toNat) % 128) 0) ^^^ q))).sectors.length) c818), (.slice B819 ((dmgW Q kk (x692.set (((at0 % 18446744073709551616).toNat) % 128) ((x692.getD (((at0 % 18446744073709551616).toNat) % 128) 0) ^^^ q))).pending.length) e820), (.int .i64 ((dmgW Q kk (x692.set (((at0 % 18446744073709551616).toNat) % 128) ((x692.getD (((at0 % 18446744073709551616).toNat) % 128) 0) ^^^ q))).left)), (.bool ((dmgW Q kk (x692.set (((at0 % 18446744073709551616).toNat) % 128) ((x692.getD (((at0 % 18446744073709551616).toNat) % 128) 0) ^^^ q))).stopped))]) (dmgW Q kk (x692.set (((at0 % 18446744073709551616).toNat) % 128) ((x692.getD (((at0 % 18446744073709551616).toNat) % 128) 0) ^^^ q))) ∧ RDk (Clip (Fr (Clip (Fr (fun b => (Clip (fun b => Fr S w b ∧ b ≠ g31 ∧ b ≠ g135 ∧ b ≠ g430) w558) b ∨ (fun b => g724 ≤ b) b) w801) w823) w834) w852) W (.agg #[(.slice A846 ((dmgS Q kk (x692.set (((at0 % 18446744073709551616).toNat) % 128) ((x692.getD (((at0 % 18446744073709551616).toNat) % 128) 0) ^^^ q))).sectors.length) c847), (.slice B848 ((dmgS Q kk (x692.set (((at0 % 18446744073709551616).toNat) % 128) ((x692.getD (((at0 % 18446744073709551616).toNat) % 128) 0) ^^^ q))).pending.length) e849), (.int .i64 ((dmgS Q kk (x692.set (((at0 % 18446744073709551616).toNat) % 128) ((x692.getD (((at0 % 18446744073709551616).toNat) % 128) 0) ^^^ q))).left)), (.bool ((dmgS Q kk (x692.set (((at0 % 18446744073709551616).toNat) % 128) ((x692.getD (((at0 % 18446744073709551616).toNat) % 128) 0) ^^^ q))).stopped))]) (dmgS Q kk (x692.set (((at0 % 18446744073709551616).toNat) % 128) ((x692.getD (((at0 % 18446744073709551616).toNat) % 128) 0) ^^^ q))) ∧ RBss (Clip (fun b => Fr S w b ∧ b ≠ g31 ∧ b ≠ g135 ∧ b ≠ g430 ∧ b ≠ g575 ∧ b ≠ g583) w878) W (.slice A875 ((Q.take (ended kk Q)).length) c876) (Q.take (ended kk Q)) ∧ w143.heap.size ≤ W.heap.size ∧ w900.heap.size ≤ W.heap.size) (fun a' _ => ne - (intOf (a'.eval (.tmp 27))).toNat) ⟨0, (((((((((((((((((((((((((((((((F909.nil.cons (q_get F909 (t := 27) rfl (by first | rfl | (congr 1; omega) | (congr 1; done)))).cons (q_get F909 (t := 26) rfl rfl)).cons (q_get F909 (t := 25) rfl rfl)).cons (q_get F909 (t := 24) rfl rfl)).cons (q_get F909 (t := 23) rfl rfl)).cons (q_get F909 (t := 144) rfl rfl)).cons (q_get F909 (t := 22) rfl rfl)).cons (q_get F909 (t := 109) rfl rfl)).cons (q_get F909 (t := 21) rfl rfl)).cons (q_get F909 (t := 20) rfl rfl)).cons (q_get F909 (t := 73) rfl rfl)).cons (q_get F909 (t := 17) rfl rfl)).cons (q_get F909 (t := 16) rfl rfl)).cons (q_get F909 (t := 15) rfl rfl)).cons (q_get F909 (t := 63) rfl rfl)).cons (q_get F909 (t := 62) rfl rfl)).cons (q_get F909 (t := 61) rfl rfl)).cons (q_get F909 (t := 60) rfl rfl)).cons (q_get F909 (t := 13) rfl rfl)).cons (q_get F909 (t := 59) rfl rfl)).cons (q_get F909 (t := 12) rfl rfl)).cons (q_get F909 (t := 11) rfl rfl)).cons (q_get F909 (t := 50) rfl rfl)).cons (q_get F909 (t := 10) rfl rfl)).cons (q_get F909 (t := 9) rfl rfl)).cons (q_get F909 (t := 29) rfl rfl)).cons (q_get F909 (t := 8) rfl rfl)).cons (q_get F909 (t := 3) rfl rfl)).cons (q_get F909 (t := 2) rfl rfl)).cons (q_get F909 (t := 1) rfl rfl)).cons (q_get F909 (t := 0) rfl rfl)), (by omega), (fun i hi => absurd hi (by omega)), ((((((((((((((((((((Ext.refl w).trans hx173).trans hx417).trans hx433).grownN hg440 (by omega)).trans hx559).trans hx578).trans hx586).grownN hg593 (by omega)).grownN hg598 (by omega)).trans hx727).grownN hg773 (by omega)).grownN hg803 (by omega)).trans hx824).grownN hg836 (by omega)).trans hx853).grownN hg865 (by omega)).trans hx879).trans hx895).grownN hg902 (by omega)), b922, b923, b924, b925, b926, b901, r927, d911, d912, d913, d914, d915, d916, d917, d918, d919, d920, d921, (by omega), (Nat.le_refl _)⟩ ?_
       clear F909
       rintro a928 w929 ⟨j, F930, hp932, hp933, hx931, b934, b935, b936, b937, b938, b939, r940, hf941, hf942, hf943, hf944, hf945, hf946, hf947, hf948, hf949, hf950, hf951, hf952, hf953⟩
       have hL954 := F930
       have z955 := hx931.size
       have z956 := b934.lt
       have z957 := b935.lt
       have z958 := b936.lt
       have z959 := b937.lt
       have z960 := b938.lt
       have z961 := b939.lt
       have z962 := own_form0 r940
       refine wp_seq_k (fun K963 hK963 => ?_)
       refine wp_seq_k (fun K964 hK964 => ?_)
       have hf965 := (Fl.own (S := fun b => w143.heap.size ≤ b) r940 (fun b hb => hb) (intVals_one _))
       refine wp_region_lit ?_
       refine qv 0 (.int .i64 (j : Nat)) F930 rfl (rn_move (F930.get rfl)) fun _ F967 => ?_; clear F930
       refine qv 1 (.slice Ae ne ce) F967 rfl (rn_move (F967.get rfl)) fun _ F969 => ?_; clear F967
       refine qv 2 (.int .i64 (ne : Nat)) F969 rfl (rn_len_slice Try.underlying47 (F969.get rfl)) fun _ F971 => ?_; clear F969
       refine qv 3 (.bool (decide (((j : Nat) : Int) < ((ne : Nat) : Int)))) F971 rfl (rn_lss (F971.get rfl) (F971.get rfl)) fun _ F973 => ?_; clear F971
       refine qv 4 (.bool (decide (((j : Nat) : Int) < ((ne : Nat) : Int)))) F973 rfl (rn_move (F973.get rfl)) fun _ F975 => ?_; clear F973
       by_cases hc976 : ((j : Nat) : Int) < ((ne : Nat) : Int)
       ·skip
        have hget : E.getD j 0 = ((usedL (Q.take (j + 1)) : Nat) : Int) := by rw [hp176]; exact ends_get (by omega)
        refine qg 5 (.slice Ae ne ce) F975 (decide_eq_true hc976) (rn_move (F975.get rfl)) fun _ F978 => ?_; clear F975
        refine qg 6 (.int .i64 (j : Nat)) F978 (decide_eq_true hc976) (rn_move (F978.get rfl)) fun _ F980 => ?_; clear F978
        refine qg 7 (.pointer (some ⟨b637, o638 + j, none⟩)) F980 (decide_eq_true hc976) (rn_index1 Try.underlying47 inf3 ((F980.get rfl).trans (by rw [hA639])) (F980.get rfl) (by omega : (0 : Int) ≤ (j : Nat)) (by omega : ((j : Nat) : Int) < ((ne : Nat) : Int))) fun _ F982 => ?_; clear F980
        refine qg 8 (.int .i64 (E.getD j 0)) F982 (decide_eq_true hc976) (rn_load (isAgg_no Try.underlying3 rfl) (F982.get rfl) (Fl.cellAt hf965 hA639 (intVals_at (i := j) (by omega)))) fun _ F984 => ?_; clear F982
        refine qg 9 (.int .i64 (kk : Nat)) F984 (decide_eq_true hc976) (rn_move (F984.get rfl)) fun _ F986 => ?_; clear F984
        refine qg 10 (.bool (decide (((E.getD j 0) : Int) ≤ ((kk : Nat) : Int)))) F986 (decide_eq_true hc976) (rn_leq (F986.get rfl) (F986.get rfl)) fun _ F988 => ?_; clear F986
        refine qv 11 (.bool (decide (((E.getD j 0) : Int) ≤ ((kk : Nat) : Int)))) F988 rfl (rn_pickT (c_true F988 rfl (decide_eq_true hc976)) (F988.get rfl)) fun _ F990 => ?_; clear F988
        refine wpList_nil ?_
        refine hK964 _ _ ?_
        clear hK964
        have F991 := ((((((((((((((((((((((((((((((((F990.nil.c F990 189 rfl).c F990 27 rfl).c F990 26 rfl).c F990 25 rfl).c F990 24 rfl).c F990 23 rfl).c F990 144 rfl).c F990 22 rfl).c F990 109 rfl).c F990 21 rfl).c F990 20 rfl).c F990 73 rfl).c F990 17 rfl).c F990 16 rfl).c F990 15 rfl).c F990 63 rfl).c F990 62 rfl).c F990 61 rfl).c F990 60 rfl).c F990 13 rfl).c F990 59 rfl).c F990 12 rfl).c F990 11 rfl).c F990 50 rfl).c F990 10 rfl).c F990 9 rfl).c F990 29 rfl).c F990 8 rfl).c F990 3 rfl).c F990 2 rfl).c F990 1 rfl).c F990 0 rfl)
        clear F990
        by_cases hc992 : ((E.getD j 0) : Int) ≤ ((kk : Nat) : Int)
        ·skip
         refine wp_cond_true (c_true F991 rfl (decide_eq_true hc992)) ?_
         refine wp_skip ?_
         refine hK963 _ _ ?_
         clear hK963
         refine wp_block ?_
         refine wp_region_lit ?_
         refine qv 0 (.int .i64 (j : Nat)) F991 rfl (rn_move (F991.get rfl)) fun _ F994 => ?_; clear F991
         refine qv 1 (.int .i64 (j + 1 : Nat)) F994 rfl (rn_addN (a := j) (b := 1) (F994.get rfl) rfl (by omega)) fun _ F996 => ?_; clear F994
         refine qv 2 (.int .i64 (j + 1 : Nat)) F996 rfl (rn_assign (F996.get rfl)) fun _ F998 => ?_; clear F996
         refine wpList_nil ?_
         refine ⟨⟨(j + 1), (((((((((((((((((((((((((((((((F998.nil.cons (q_get F998 (t := 27) rfl (by first | rfl | (congr 1; omega) | (congr 1; done)))).cons (q_get F998 (t := 26) rfl rfl)).cons (q_get F998 (t := 25) rfl rfl)).cons (q_get F998 (t := 24) rfl rfl)).cons (q_get F998 (t := 23) rfl rfl)).cons (q_get F998 (t := 144) rfl rfl)).cons (q_get F998 (t := 22) rfl rfl)).cons (q_get F998 (t := 109) rfl rfl)).cons (q_get F998 (t := 21) rfl rfl)).cons (q_get F998 (t := 20) rfl rfl)).cons (q_get F998 (t := 73) rfl rfl)).cons (q_get F998 (t := 17) rfl rfl)).cons (q_get F998 (t := 16) rfl rfl)).cons (q_get F998 (t := 15) rfl rfl)).cons (q_get F998 (t := 63) rfl rfl)).cons (q_get F998 (t := 62) rfl rfl)).cons (q_get F998 (t := 61) rfl rfl)).cons (q_get F998 (t := 60) rfl rfl)).cons (q_get F998 (t := 13) rfl rfl)).cons (q_get F998 (t := 59) rfl rfl)).cons (q_get F998 (t := 12) rfl rfl)).cons (q_get F998 (t := 11) rfl rfl)).cons (q_get F998 (t := 50) rfl rfl)).cons (q_get F998 (t := 10) rfl rfl)).cons (q_get F998 (t := 9) rfl rfl)).cons (q_get F998 (t := 29) rfl rfl)).cons (q_get F998 (t := 8) rfl rfl)).cons (q_get F998 (t := 3) rfl rfl)).cons (q_get F998 (t := 2) rfl rfl)).cons (q_get F998 (t := 1) rfl rfl)).cons (q_get F998 (t := 0) rfl rfl)), (by omega), (all_step hp933 (by omega)), ((Ext.refl w).trans hx931), b934, b935, b936, b937, b938, b939, r940, hf941, hf942, hf943, hf944, hf945, hf946, hf947, hf948, hf949, hf950, hf951, (by omega), (by omega)⟩, ?_⟩
         rw [F998.get (t := 27) rfl, hL954.get (t := 27) rfl]; simp [intOf] <;> omega
        ·skip
         refine wp_cond_false (c_false F991 rfl (decide_eq_false hc992)) ?_
         refine wp_exit ?_
         refine exit_then ?_
         refine exit_then ?_
         refine exit_here ?_
         refine hK910 _ _ ?_
         clear hK910
         refine wp_seq_k (fun K999 hK999 => ?_)
         have hx1001 : ∃ W, w929.drew = W ∧ Ext w929 W := ⟨_, rfl, (Ext.refl _).drew⟩
         obtain ⟨w1000, e1002, hx1001⟩ := hx1001
         have z1003 := hx1001.size
         refine any_start (fun W => Ext w1000 W ∧ Blk W g892 29 [(.int .i64 (40 : Nat)), (.slice A875 ((Q.take (ended kk Q)).length) c876), (.int .i64 ((Q.take (ended kk Q)).length : Nat))] ∧ Blk W g135 29 [(.int .i64 (40 : Nat)), (.slice Aq Q.length cq), (.int .i64 0)]) (fun i => false) 20 #[false, false, false, false, false, false, false, false, false, false, false, false, false, false, false, false, false, false, false, false] rfl rfl rfl ?_
         rw [e1002]; clear e1002
         refine qp 0 (.int .i64 0) F991 rfl rfl (fun W => (rn_move (F991.get rfl))) fun _ F1005 => ?_; clear F991
         refine qp 1 (.bool true) F1005 rfl rfl (fun W => (rn_eql' (F1005.get rfl) rfl (by decide))) fun _ F1007 => ?_; clear F1005
         refine qp 2 (.bool true) F1007 rfl rfl (fun W => (rn_move (F1007.get rfl))) fun _ F1009 => ?_; clear F1007
         refine qp 3 (.int .i64 0) F1009 rfl (wanted_guard rfl rfl rfl F1009 rfl rfl rfl) (fun W => (rn_move (F1009.get rfl))) fun _ F1011 => ?_; clear F1009
         refine qp 4 (.bool true) F1011 rfl (wanted_guard rfl rfl rfl F1011 rfl rfl rfl) (fun W => (rn_eql' (F1011.get rfl) rfl (by decide))) fun _ F1013 => ?_; clear F1011
         refine qp 5 (.bool true) F1013 rfl rfl (fun W => (rn_pickT (c_true F1013 rfl rfl) (F1013.get rfl))) fun _ F1015 => ?_; clear F1013
         refine qp 6 (.bool true) F1015 rfl rfl (fun W => (rn_move (F1015.get rfl))) fun _ F1017 => ?_; clear F1015
         refine qp 7 (.int .i64 0) F1017 rfl (wanted_guard rfl rfl rfl F1017 rfl rfl rfl) (fun W => (rn_move (F1017.get rfl))) fun _ F1019 => ?_; clear F1017
         refine qp 8 (.bool true) F1019 rfl (wanted_guard rfl rfl rfl F1019 rfl rfl rfl) (fun W => (rn_eql' (F1019.get rfl) rfl (by decide))) fun _ F1021 => ?_; clear F1019
         refine qp 9 (.bool true) F1021 rfl rfl (fun W => (rn_pickT (c_true F1021 rfl rfl) (F1021.get rfl))) fun _ F1023 => ?_; clear F1021
         refine qp 10 (.bool true) F1023 rfl rfl (fun W => (rn_move (F1023.get rfl))) fun _ F1025 => ?_; clear F1023
         refine qp 11 (.pointer (some ⟨g892, 1, none⟩)) F1025 rfl (wanted_guard rfl rfl rfl F1025 rfl rfl rfl) (fun W => (rn_field Try.underlying29 rfl (by kernel_rfl) (F1025.get rfl) rfl)) fun _ F1027 => ?_; clear F1025
         have b1029 := (b939.ext hx1001)
         have b1030 := (b935.ext hx1001)
         have hS1028 : Ext w1000 w1000 ∧ Blk w1000 g892 29 [(.int .i64 (40 : Nat)), (.slice A875 ((Q.take (ended kk Q)).length) c876), (.int .i64 ((Q.take (ended kk Q)).length : Nat))] ∧ Blk w1000 g135 29 [(.int .i64 (40 : Nat)), (.slice Aq Q.length cq), (.int .i64 0)] := ⟨(Ext.refl w1000), b1029, b1030⟩
         refine qs 12 (.slice A875 ((Q.take (ended kk Q)).length) c876) F1027 rfl (wanted_guard rfl rfl rfl F1027 rfl rfl rfl) hS1028 (fun W hW => (rn_load (isAgg_no Try.underlying22 rfl) (F1027.get rfl) (hW.2.1.rule.1 1))) fun _ F1032 => ?_; clear F1027
         refine qp 13 (.pointer (some ⟨g135, 1, none⟩)) F1032 rfl (wanted_guard rfl rfl rfl F1032 rfl rfl rfl) (fun W => (rn_field Try.underlying29 rfl (by kernel_rfl) (F1032.get rfl) rfl)) fun _ F1034 => ?_; clear F1032
         refine qs 14 (.slice Aq Q.length cq) F1034 rfl (wanted_guard rfl rfl rfl F1034 rfl rfl rfl) hS1028 (fun W hW => (rn_load (isAgg_no Try.underlying22 rfl) (F1034.get rfl) (hW.2.2.rule.1 1))) fun _ F1036 => ?_; clear F1034
         refine qp 15 (.int .i64 (j : Nat)) F1036 rfl (wanted_guard rfl rfl rfl F1036 rfl rfl rfl) (fun W => (rn_move (F1036.get rfl))) fun _ F1038 => ?_; clear F1036
         refine qp 16 (.slice Aq j cq) F1038 rfl (wanted_guard rfl rfl rfl F1038 rfl rfl rfl) (fun W => (rn_sliceHi Try.underlying22 inf35 (F1038.get rfl) (F1038.get rfl) (by omega : (0 : Int) ≤ (j : Nat)) (by omega : ((j : Nat) : Int) ≤ ((cq : Nat) : Int)))) fun _ F1040 => ?_; clear F1038
         refine any_one (i := 17) (by decide +kernel) rfl ?_
         have d1041 := (hf951.ext hx1001)
         have d1042 := (hf943.ext hx1001)
         refine o_call F1040 rfl (wanted_guard rfl rfl rfl F1040 rfl rfl rfl) rfl rfl (rn_call (args2 (F1040.get rfl) (F1040.get rfl)) rfl (by kernel_rfl)) (samer_at (v := (.slice A875 ((Q.take (ended kk Q)).length) c876)) (u := (.slice Aq j cq)) (Q.take (ended kk Q)) (Q.take j) _ d1041 (RSl.take d1042 (by omega : j ≤ Q.length) (by omega : j ≤ cq) (by omega))) ?_
         rintro _ w1043 ⟨rfl, hx1044⟩
         refine ⟨_, rfl, ?_⟩; intro a1045 F1046; clear F1040; have z1047 := hx1044.size
         have b1048 := (b1029.ext hx1044)
         have b1049 := (b1030.ext hx1044)
         refine ⟨fun _ _ => ⟨((Ext.refl w1000).trans hx1044), b1048, b1049⟩, ?_⟩
         refine qp 18 (.bool (decide ((Q.take (ended kk Q)) = (Q.take j)))) F1046 rfl rfl (fun W => (rn_pickT (c_true F1046 rfl rfl) (F1046.get rfl))) fun _ F1051 => ?_; clear F1046
         refine qp 19 (.bool (decide ((Q.take (ended kk Q)) = (Q.take j)))) F1051 rfl rfl (fun W => (rn_assign (F1051.get rfl))) fun _ F1053 => ?_; clear F1051
         refine any_nil (by decide +kernel) ?_
         refine hK999 _ _ ?_
         clear hK999
         have F1054 := ((((((((((((((((((((((((((((((((F1053.nil.c F1053 189 rfl).c F1053 27 rfl).c F1053 26 rfl).c F1053 25 rfl).c F1053 24 rfl).c F1053 23 rfl).c F1053 144 rfl).c F1053 22 rfl).c F1053 109 rfl).c F1053 21 rfl).c F1053 20 rfl).c F1053 73 rfl).c F1053 17 rfl).c F1053 16 rfl).c F1053 15 rfl).c F1053 63 rfl).c F1053 62 rfl).c F1053 61 rfl).c F1053 60 rfl).c F1053 13 rfl).c F1053 59 rfl).c F1053 12 rfl).c F1053 11 rfl).c F1053 50 rfl).c F1053 10 rfl).c F1053 9 rfl).c F1053 29 rfl).c F1053 8 rfl).c F1053 3 rfl).c F1053 2 rfl).c F1053 1 rfl).c F1053 0 rfl)
         clear F1053
         refine wp_ret ?_
         refine ret1 F1054 rfl rfl ?_
         have hend : ended kk Q = j := ended_of (by omega) hp933 (by first | exact .inl (by omega) | exact .inr (by omega))
         exact ⟨congrArg (fun b => Ending.returned (.bool b)) (((decide_eq_true (by rw [hend])) : decide ((Q.take (ended kk Q)) = (Q.take j)) = true) : decide ((Q.take (ended kk Q)) = (Q.take j)) = true), ((((Ext.refl w).trans hx931).trans hx1001).trans hx1044)⟩
       ·skip
        refine qu 5 F975 (decide_eq_false hc976) fun _ F1056 => ?_; clear F975
        refine qu 6 F1056 (decide_eq_false hc976) fun _ F1058 => ?_; clear F1056
        refine qu 7 F1058 (decide_eq_false hc976) fun _ F1060 => ?_; clear F1058
        refine qu 8 F1060 (decide_eq_false hc976) fun _ F1062 => ?_; clear F1060
        refine qu 9 F1062 (decide_eq_false hc976) fun _ F1064 => ?_; clear F1062
        refine qu 10 F1064 (decide_eq_false hc976) fun _ F1066 => ?_; clear F1064
        refine qv 11 (.bool false) F1066 rfl (rn_pickF (c_false F1066 rfl (decide_eq_false hc976)) rfl) fun _ F1068 => ?_; clear F1066
        refine wpList_nil ?_
        refine hK964 _ _ ?_
        clear hK964
        have F1069 := ((((((((((((((((((((((((((((((((F1068.nil.c F1068 189 rfl).c F1068 27 rfl).c F1068 26 rfl).c F1068 25 rfl).c F1068 24 rfl).c F1068 23 rfl).c F1068 144 rfl).c F1068 22 rfl).c F1068 109 rfl).c F1068 21 rfl).c F1068 20 rfl).c F1068 73 rfl).c F1068 17 rfl).c F1068 16 rfl).c F1068 15 rfl).c F1068 63 rfl).c F1068 62 rfl).c F1068 61 rfl).c F1068 60 rfl).c F1068 13 rfl).c F1068 59 rfl).c F1068 12 rfl).c F1068 11 rfl).c F1068 50 rfl).c F1068 10 rfl).c F1068 9 rfl).c F1068 29 rfl).c F1068 8 rfl).c F1068 3 rfl).c F1068 2 rfl).c F1068 1 rfl).c F1068 0 rfl)
        clear F1068
        refine wp_cond_false (c_false F1069 rfl rfl) ?_
        refine wp_exit ?_
        refine exit_then ?_
        refine exit_then ?_
        refine exit_here ?_
        refine hK910 _ _ ?_
        clear hK910
        refine wp_seq_k (fun K1070 hK1070 => ?_)
        have hx1072 : ∃ W, w929.drew = W ∧ Ext w929 W := ⟨_, rfl, (Ext.refl _).drew⟩
        obtain ⟨w1071, e1073, hx1072⟩ := hx1072
        have z1074 := hx1072.size
        refine any_start (fun W => Ext w1071 W ∧ Blk W g892 29 [(.int .i64 (40 : Nat)), (.slice A875 ((Q.take (ended kk Q)).length) c876), (.int .i64 ((Q.take (ended kk Q)).length : Nat))] ∧ Blk W g135 29 [(.int .i64 (40 : Nat)), (.slice Aq Q.length cq), (.int .i64 0)]) (fun i => false) 20 #[false, false, false, false, false, false, false, false, false, false, false, false, false, false, false, false, false, false, false, false] rfl rfl rfl ?_
        rw [e1073]; clear e1073
        refine qp 0 (.int .i64 0) F1069 rfl rfl (fun W => (rn_move (F1069.get rfl))) fun _ F1076 => ?_; clear F1069
        refine qp 1 (.bool true) F1076 rfl rfl (fun W => (rn_eql' (F1076.get rfl) rfl (by decide))) fun _ F1078 => ?_; clear F1076
        refine qp 2 (.bool true) F1078 rfl rfl (fun W => (rn_move (F1078.get rfl))) fun _ F1080 => ?_; clear F1078
        refine qp 3 (.int .i64 0) F1080 rfl (wanted_guard rfl rfl rfl F1080 rfl rfl rfl) (fun W => (rn_move (F1080.get rfl))) fun _ F1082 => ?_; clear F1080
        refine qp 4 (.bool true) F1082 rfl (wanted_guard rfl rfl rfl F1082 rfl rfl rfl) (fun W => (rn_eql' (F1082.get rfl) rfl (by decide))) fun _ F1084 => ?_; clear F1082
        refine qp 5 (.bool true) F1084 rfl rfl (fun W => (rn_pickT (c_true F1084 rfl rfl) (F1084.get rfl))) fun _ F1086 => ?_; clear F1084
        refine qp 6 (.bool true) F1086 rfl rfl (fun W => (rn_move (F1086.get rfl))) fun _ F1088 => ?_; clear F1086
        refine qp 7 (.int .i64 0) F1088 rfl (wanted_guard rfl rfl rfl F1088 rfl rfl rfl) (fun W => (rn_move (F1088.get rfl))) fun _ F1090 => ?_; clear F1088
        refine qp 8 (.bool true) F1090 rfl (wanted_guard rfl rfl rfl F1090 rfl rfl rfl) (fun W => (rn_eql' (F1090.get rfl) rfl (by decide))) fun _ F1092 => ?_; clear F1090
        refine qp 9 (.bool true) F1092 rfl rfl (fun W => (rn_pickT (c_true F1092 rfl rfl) (F1092.get rfl))) fun _ F1094 => ?_; clear F1092
        refine qp 10 (.bool true) F1094 rfl rfl (fun W => (rn_move (F1094.get rfl))) fun _ F1096 => ?_; clear F1094
        refine qp 11 (.pointer (some ⟨g892, 1, none⟩)) F1096 rfl (wanted_guard rfl rfl rfl F1096 rfl rfl rfl) (fun W => (rn_field Try.underlying29 rfl (by kernel_rfl) (F1096.get rfl) rfl)) fun _ F1098 => ?_; clear F1096
        have b1100 := (b939.ext hx1072)
        have b1101 := (b935.ext hx1072)
        have hS1099 : Ext w1071 w1071 ∧ Blk w1071 g892 29 [(.int .i64 (40 : Nat)), (.slice A875 ((Q.take (ended kk Q)).length) c876), (.int .i64 ((Q.take (ended kk Q)).length : Nat))] ∧ Blk w1071 g135 29 [(.int .i64 (40 : Nat)), (.slice Aq Q.length cq), (.int .i64 0)] := ⟨(Ext.refl w1071), b1100, b1101⟩
        refine qs 12 (.slice A875 ((Q.take (ended kk Q)).length) c876) F1098 rfl (wanted_guard rfl rfl rfl F1098 rfl rfl rfl) hS1099 (fun W hW => (rn_load (isAgg_no Try.underlying22 rfl) (F1098.get rfl) (hW.2.1.rule.1 1))) fun _ F1103 => ?_; clear F1098
        refine qp 13 (.pointer (some ⟨g135, 1, none⟩)) F1103 rfl (wanted_guard rfl rfl rfl F1103 rfl rfl rfl) (fun W => (rn_field Try.underlying29 rfl (by kernel_rfl) (F1103.get rfl) rfl)) fun _ F1105 => ?_; clear F1103
        refine qs 14 (.slice Aq Q.length cq) F1105 rfl (wanted_guard rfl rfl rfl F1105 rfl rfl rfl) hS1099 (fun W hW => (rn_load (isAgg_no Try.underlying22 rfl) (F1105.get rfl) (hW.2.2.rule.1 1))) fun _ F1107 => ?_; clear F1105
        refine qp 15 (.int .i64 (j : Nat)) F1107 rfl (wanted_guard rfl rfl rfl F1107 rfl rfl rfl) (fun W => (rn_move (F1107.get rfl))) fun _ F1109 => ?_; clear F1107
        refine qp 16 (.slice Aq j cq) F1109 rfl (wanted_guard rfl rfl rfl F1109 rfl rfl rfl) (fun W => (rn_sliceHi Try.underlying22 inf35 (F1109.get rfl) (F1109.get rfl) (by omega : (0 : Int) ≤ (j : Nat)) (by omega : ((j : Nat) : Int) ≤ ((cq : Nat) : Int)))) fun _ F1111 => ?_; clear F1109
        refine any_one (i := 17) (by decide +kernel) rfl ?_
        have d1112 := (hf951.ext hx1072)
        have d1113 := (hf943.ext hx1072)
        refine o_call F1111 rfl (wanted_guard rfl rfl rfl F1111 rfl rfl rfl) rfl rfl (rn_call (args2 (F1111.get rfl) (F1111.get rfl)) rfl (by kernel_rfl)) (samer_at (v := (.slice A875 ((Q.take (ended kk Q)).length) c876)) (u := (.slice Aq j cq)) (Q.take (ended kk Q)) (Q.take j) _ d1112 (RSl.take d1113 (by omega : j ≤ Q.length) (by omega : j ≤ cq) (by omega))) ?_
        rintro _ w1114 ⟨rfl, hx1115⟩
        refine ⟨_, rfl, ?_⟩; intro a1116 F1117; clear F1111; have z1118 := hx1115.size
        have b1119 := (b1100.ext hx1115)
        have b1120 := (b1101.ext hx1115)
        refine ⟨fun _ _ => ⟨((Ext.refl w1071).trans hx1115), b1119, b1120⟩, ?_⟩
        refine qp 18 (.bool (decide ((Q.take (ended kk Q)) = (Q.take j)))) F1117 rfl rfl (fun W => (rn_pickT (c_true F1117 rfl rfl) (F1117.get rfl))) fun _ F1122 => ?_; clear F1117
        refine qp 19 (.bool (decide ((Q.take (ended kk Q)) = (Q.take j)))) F1122 rfl rfl (fun W => (rn_assign (F1122.get rfl))) fun _ F1124 => ?_; clear F1122
        refine any_nil (by decide +kernel) ?_
        refine hK1070 _ _ ?_
        clear hK1070
        have F1125 := ((((((((((((((((((((((((((((((((F1124.nil.c F1124 189 rfl).c F1124 27 rfl).c F1124 26 rfl).c F1124 25 rfl).c F1124 24 rfl).c F1124 23 rfl).c F1124 144 rfl).c F1124 22 rfl).c F1124 109 rfl).c F1124 21 rfl).c F1124 20 rfl).c F1124 73 rfl).c F1124 17 rfl).c F1124 16 rfl).c F1124 15 rfl).c F1124 63 rfl).c F1124 62 rfl).c F1124 61 rfl).c F1124 60 rfl).c F1124 13 rfl).c F1124 59 rfl).c F1124 12 rfl).c F1124 11 rfl).c F1124 50 rfl).c F1124 10 rfl).c F1124 9 rfl).c F1124 29 rfl).c F1124 8 rfl).c F1124 3 rfl).c F1124 2 rfl).c F1124 1 rfl).c F1124 0 rfl)
        clear F1124
        refine wp_ret ?_
        refine ret1 F1125 rfl rfl ?_
        have hend : ended kk Q = j := ended_of (by omega) hp933 (by first | exact .inl (by omega) | exact .inr (by omega))
        exact ⟨congrArg (fun b => Ending.returned (.bool b)) (((decide_eq_true (by rw [hend])) : decide ((Q.take (ended kk Q)) = (Q.take j)) = true) : decide ((Q.take (ended kk Q)) = (Q.take j)) = true), ((((Ext.refl w).trans hx931).trans hx1072).trans hx1115)⟩
    ·skip
     refine wp_cond_false (c_false F195 rfl (decide_eq_false hc197)) ?_
     refine wp_exit ?_
     refine exit_then ?_
     refine exit_then ?_
     refine exit_here ?_
     refine hK159 _ _ ?_
     clear hK159
     refine wp_seq_k (fun K1126 hK1126 => ?_)
     by_cases hc1127 : Q.length = 0
     ·skip
      have hq0 := hc1127
      refine wp_region_lit ?_
      refine qv 0 (.agg #[(.int .i64 (40 : Nat)), (.slice Aq Q.length cq), (.int .i64 0)]) F195 rfl (rn_loadBlk (F195.get rfl) b179 Try.underlying29 rfl inf29) fun _ F1129 => ?_; clear F195
      refine qv 1 (.agg #[(.slice A14 n40.sectors.length c15), (.slice B16 n40.pending.length e17), (.int .i64 n40.left), (.bool n40.stopped)]) F1129 rfl (rn_loadBlk (F1129.get rfl) b178 Try.underlying25 rfl inf25) fun _ F1131 => ?_; clear F1129
      refine wpl_op (i := 2) rfl (o_call F1131 rfl rfl rfl rfl (rn_call (args2 (F1131.get rfl) (F1131.get rfl)) rfl (by kernel_rfl)) (sync_conv (sync9_at (S := (fun b => (Clip (fun b => Fr S w b ∧ b ≠ g31 ∧ b ≠ g135 ∧ some b ≠ (Value.slice Ae ne ce).ownBlock) w171) b ∨ (Clip (Fr (fun _ => False) w6) w20) b)) (v := (.slice Aq Q.length cq)) (u := (.agg #[(.slice A14 n40.sectors.length c15), (.slice B16 n40.pending.length e17), (.int .i64 n40.left), (.bool n40.stopped)])) (40 : Nat) Q 0 n40 _ (RBss.sub hf183 fun b hb => .inl hb) hqb.1 (by omega) (RDk.sub hf181 fun b hb => .inr hb)) (sync_6 (St.goes (R' := Q) (s := 0) st_40 (by decide) rfl rfl hp175) (by show (0 : Int) = ((Q.length : Nat) : Int); omega))) ?_)
      rintro _ w1141 ⟨A1132, c1133, v1134, rfl, hb1135, hd1136, hx1142⟩
      obtain ⟨A1137, c1138, B1139, e1140, rfl, -, -⟩ := hd1136.form
      have hd1136 := hd1136.clip
      refine ⟨_, rfl, ?_⟩; intro a1143 F1144; clear F1131; have z1145 := hx1142.size
      obtain ⟨-, z1147, z1148⟩ := RBss.at hb1135
      have hf1146 : RBss (Clip (fun b => Fr S w b ∧ b ≠ g31 ∧ b ≠ g135) w1141) w1141 (.slice A1132 Q.length c1133) Q := (RBss.clip hb1135).sub fun b h => by obtain ⟨h, hlt⟩ := h; (rcases h with h | h; (focus ((rcases h with h | h; (focus (obtain ⟨h, hlt⟩ := h; exact ⟨⟨h.1, h.2.1, h.2.2.1⟩, by clear h; omega⟩)); (obtain ⟨h, hlt⟩ := h; (rcases h with h | h; (focus (exact h.elim)); (exact ⟨⟨.inr (by omega), by omega, by omega⟩, by omega⟩)))))); (exact ⟨⟨.inr (by omega), by omega, by omega⟩, by omega⟩))
      have hd1149 : RDk (Clip (fun b => Fr S w b ∧ b ≠ g31 ∧ b ≠ g135) w1141) w1141 (.agg #[(.slice A1137 n40.sectors.length c1138), (.slice B1139 n40.pending.length e1140), (.int .i64 n40.left), (.bool n40.stopped)]) n40 := RDk.sub hd1136 fun b h => by obtain ⟨h, hlt⟩ := h; (rcases h with h | h; (focus ((rcases h with h | h; (focus (obtain ⟨h, hlt⟩ := h; exact ⟨⟨h.1, h.2.1, h.2.2.1⟩, by clear h; omega⟩)); (obtain ⟨h, hlt⟩ := h; (rcases h with h | h; (focus (exact h.elim)); (exact ⟨⟨.inr (by omega), by omega, by omega⟩, by omega⟩)))))); (exact ⟨⟨.inr (by omega), by omega, by omega⟩, by omega⟩))
      refine qv 3 (.tuple #[(.agg #[(.int .i64 (40 : Nat)), (.slice A1132 Q.length c1133), (.int .i64 0)]), (.agg #[(.slice A1137 n40.sectors.length c1138), (.slice B1139 n40.pending.length e1140), (.int .i64 n40.left), (.bool n40.stopped)]), (.int .i64 0)]) F1144 rfl (rn_move (F1144.get rfl)) fun _ F1151 => ?_; clear F1144
      refine qv 4 (.agg #[(.int .i64 (40 : Nat)), (.slice A1132 Q.length c1133), (.int .i64 0)]) F1151 rfl (rn_extract (F1151.get rfl) rfl) fun _ F1153 => ?_; clear F1151
      refine qv 5 (.agg #[(.slice A1137 n40.sectors.length c1138), (.slice B1139 n40.pending.length e1140), (.int .i64 n40.left), (.bool n40.stopped)]) F1153 rfl (rn_extract (F1153.get rfl) rfl) fun _ F1155 => ?_; clear F1153
      refine qv 6 (.int .i64 0) F1155 rfl (rn_extract (F1155.get rfl) rfl) fun _ F1157 => ?_; clear F1155
      refine wpl_op (i := 7) rfl (o_new (fun g => (.pointer (some ⟨g, 0, none⟩))) [(.int .i64 0), (.slice none 0 0), (.int .i64 0)] 29 F1157 rfl rfl rfl rfl (by kernel_rfl) ?_)
      intro g1158 w1159 a1164 F1165 z1162 z1163 b1160 hx1161; clear F1157
      refine wpl_op (i := 8) rfl (o_new (fun g => (.pointer (some ⟨g, 0, none⟩))) [(.slice none 0 0), (.slice none 0 0), (.int .i64 0), (.bool false)] 25 F1165 rfl rfl rfl rfl (by kernel_rfl) ?_)
      intro g1166 w1167 a1172 F1173 z1170 z1171 b1168 hx1169; clear F1165
      have b1177 := (b1160.ext hx1169)
      refine wpl_op (i := 9) rfl (o_store (cells := [(.int .i64 (40 : Nat)), (.slice A1132 Q.length c1133), (.int .i64 0)]) F1173 rfl rfl rfl rfl (F1173.get rfl) (F1173.get rfl) b1177 inf29 rfl (by simp [Value.oneCell']) ?_)
      intro w1174 b1175 hg1176; have z1178 := hg1176.size
      have b1182 := (b1168.grownN hg1176 (by omega))
      refine wpl_op (i := 10) rfl (o_store (cells := [(.slice A1137 n40.sectors.length c1138), (.slice B1139 n40.pending.length e1140), (.int .i64 n40.left), (.bool n40.stopped)]) F1173 rfl rfl rfl rfl (F1173.get rfl) (F1173.get rfl) b1182 inf25 rfl (by simp [Value.oneCell']) ?_)
      intro w1179 b1180 hg1181; have z1183 := hg1181.size
      refine qv 11 (.int .i64 0) F1173 rfl (rn_assign (F1173.get rfl)) fun _ F1185 => ?_; clear F1173
      refine wpList_nil ?_
      refine hK1126 _ _ ?_
      clear hK1126
      have F1186 := (((((((((((((((((((F1185.nil.c F1185 21 rfl).c F1185 20 rfl).c F1185 63 rfl).c F1185 62 rfl).c F1185 61 rfl).c F1185 60 rfl).c F1185 13 rfl).c F1185 59 rfl).c F1185 12 rfl).c F1185 11 rfl).c F1185 50 rfl).c F1185 10 rfl).c F1185 9 rfl).c F1185 29 rfl).c F1185 8 rfl).c F1185 3 rfl).c F1185 2 rfl).c F1185 1 rfl).c F1185 0 rfl)
      clear F1185
      refine wp_seq_k (fun K1187 hK1187 => ?_)
      refine wp_seq_k (fun K1188 hK1188 => ?_)
      refine wp_region_lit ?_
      refine qv 0 (.int .i64 0) F1186 rfl (rn_move (F1186.get rfl)) fun _ F1190 => ?_; clear F1186
      refine qv 1 (.bool false) F1190 rfl (rn_neq' (F1190.get rfl) rfl (by decide)) fun _ F1192 => ?_; clear F1190
      refine qv 2 (.bool false) F1192 rfl (rn_move (F1192.get rfl)) fun _ F1194 => ?_; clear F1192
      refine qg 3 (.slice Ae ne ce) F1194 rfl (rn_move (F1194.get rfl)) fun _ F1196 => ?_; clear F1194
      refine qg 4 (.int .i64 (ne : Nat)) F1196 rfl (rn_len_slice Try.underlying47 (F1196.get rfl)) fun _ F1198 => ?_; clear F1196
      refine qg 5 (.bool (decide (((ne : Nat) : Int) = (0 : Int)))) F1198 rfl (rn_eql (F1198.get rfl) rfl) fun _ F1200 => ?_; clear F1198
      refine qv 6 (.bool (decide (((ne : Nat) : Int) = (0 : Int)))) F1200 rfl (rn_pickF (c_false F1200 rfl rfl) (F1200.get rfl)) fun _ F1202 => ?_; clear F1200
      refine wpList_nil ?_
      refine hK1188 _ _ ?_
      clear hK1188
      have F1203 := ((((((((((((((((((((F1202.nil.c F1202 109 rfl).c F1202 21 rfl).c F1202 20 rfl).c F1202 63 rfl).c F1202 62 rfl).c F1202 61 rfl).c F1202 60 rfl).c F1202 13 rfl).c F1202 59 rfl).c F1202 12 rfl).c F1202 11 rfl).c F1202 50 rfl).c F1202 10 rfl).c F1202 9 rfl).c F1202 29 rfl).c F1202 8 rfl).c F1202 3 rfl).c F1202 2 rfl).c F1202 1 rfl).c F1202 0 rfl)
      clear F1202
      refine wp_cond_true (c_true F1203 rfl ((decide_eq_true (by omega)) : decide (((ne : Nat) : Int) = (0 : Int)) = true)) ?_
      refine wp_seq_k (fun K1205 hK1205 => ?_)
      refine wp_region_lit ?_
      refine qv 0 (.int .i64 0) F1203 rfl (rn_move (F1203.get rfl)) fun _ F1207 => ?_; clear F1203
      refine qv 1 (.bool true) F1207 rfl (rn_eql' (F1207.get rfl) rfl (by decide)) fun _ F1209 => ?_; clear F1207
      refine qv 2 (.bool true) F1209 rfl (rn_assign (F1209.get rfl)) fun _ F1211 => ?_; clear F1209
      refine wpList_nil ?_
      refine hK1205 _ _ ?_
      clear hK1205
      refine wp_ret ?_
      refine ret_then ?_
      refine ret1 F1211 rfl rfl ?_
      exact ⟨congrArg (fun b => Ending.returned (.bool b)) (rfl : true = true), (((((((Ext.refl w).trans hx173).trans hx1142).trans hx1161).trans hx1169).grownN hg1176 (by omega)).grownN hg1181 (by omega))⟩
     ·skip
      have hq0 := hc1127
      refine wp_region_lit ?_
      refine qv 0 (.agg #[(.int .i64 (40 : Nat)), (.slice Aq Q.length cq), (.int .i64 0)]) F195 rfl (rn_loadBlk (F195.get rfl) b179 Try.underlying29 rfl inf29) fun _ F1213 => ?_; clear F195
      refine qv 1 (.agg #[(.slice A14 n40.sectors.length c15), (.slice B16 n40.pending.length e17), (.int .i64 n40.left), (.bool n40.stopped)]) F1213 rfl (rn_loadBlk (F1213.get rfl) b178 Try.underlying25 rfl inf25) fun _ F1215 => ?_; clear F1213
      refine wpl_op (i := 2) rfl (o_call F1215 rfl rfl rfl rfl (rn_call (args2 (F1215.get rfl) (F1215.get rfl)) rfl (by kernel_rfl)) (sync_conv (sync9_at (S := (fun b => (Clip (fun b => Fr S w b ∧ b ≠ g31 ∧ b ≠ g135 ∧ some b ≠ (Value.slice Ae ne ce).ownBlock) w171) b ∨ (Clip (Fr (fun _ => False) w6) w20) b)) (v := (.slice Aq Q.length cq)) (u := (.agg #[(.slice A14 n40.sectors.length c15), (.slice B16 n40.pending.length e17), (.int .i64 n40.left), (.bool n40.stopped)])) (40 : Nat) Q 0 n40 _ (RBss.sub hf183 fun b hb => .inl hb) hqb.1 (by omega) (RDk.sub hf181 fun b hb => .inr hb)) (dmg_sync (ne_nil_of hq0) hp175)) ?_)
      rintro _ w1225 ⟨A1216, c1217, v1218, rfl, hb1219, hd1220, hx1226⟩
      obtain ⟨A1221, c1222, B1223, e1224, rfl, -, -⟩ := hd1220.form
      have hd1220 := hd1220.clip
      refine ⟨_, rfl, ?_⟩; intro a1227 F1228; clear F1215; have z1229 := hx1226.size
      obtain ⟨-, z1231, z1232⟩ := RBss.at hb1219
      have hf1230 : RBss (Clip (fun b => Fr S w b ∧ b ≠ g31 ∧ b ≠ g135) w1225) w1225 (.slice A1216 Q.length c1217) Q := (RBss.clip hb1219).sub fun b h => by obtain ⟨h, hlt⟩ := h; (rcases h with h | h; (focus ((rcases h with h | h; (focus (obtain ⟨h, hlt⟩ := h; exact ⟨⟨h.1, h.2.1, h.2.2.1⟩, by clear h; omega⟩)); (obtain ⟨h, hlt⟩ := h; (rcases h with h | h; (focus (exact h.elim)); (exact ⟨⟨.inr (by omega), by omega, by omega⟩, by omega⟩)))))); (exact ⟨⟨.inr (by omega), by omega, by omega⟩, by omega⟩))
      have hd1233 : RDk (Clip (fun b => Fr S w b ∧ b ≠ g31 ∧ b ≠ g135) w1225) w1225 (.agg #[(.slice A1221 ((dmgD Q).sectors.length) c1222), (.slice B1223 ((dmgD Q).pending.length) e1224), (.int .i64 ((dmgD Q).left)), (.bool ((dmgD Q).stopped))]) (dmgD Q) := RDk.sub hd1220 fun b h => by obtain ⟨h, hlt⟩ := h; (rcases h with h | h; (focus ((rcases h with h | h; (focus (obtain ⟨h, hlt⟩ := h; exact ⟨⟨h.1, h.2.1, h.2.2.1⟩, by clear h; omega⟩)); (obtain ⟨h, hlt⟩ := h; (rcases h with h | h; (focus (exact h.elim)); (exact ⟨⟨.inr (by omega), by omega, by omega⟩, by omega⟩)))))); (exact ⟨⟨.inr (by omega), by omega, by omega⟩, by omega⟩))
      refine qv 3 (.tuple #[(.agg #[(.int .i64 (40 : Nat)), (.slice A1216 Q.length c1217), (.int .i64 (Q.length : Nat))]), (.agg #[(.slice A1221 ((dmgD Q).sectors.length) c1222), (.slice B1223 ((dmgD Q).pending.length) e1224), (.int .i64 ((dmgD Q).left)), (.bool ((dmgD Q).stopped))]), (.int .i64 0)]) F1228 rfl (rn_move (F1228.get rfl)) fun _ F1235 => ?_; clear F1228
      refine qv 4 (.agg #[(.int .i64 (40 : Nat)), (.slice A1216 Q.length c1217), (.int .i64 (Q.length : Nat))]) F1235 rfl (rn_extract (F1235.get rfl) rfl) fun _ F1237 => ?_; clear F1235
      refine qv 5 (.agg #[(.slice A1221 ((dmgD Q).sectors.length) c1222), (.slice B1223 ((dmgD Q).pending.length) e1224), (.int .i64 ((dmgD Q).left)), (.bool ((dmgD Q).stopped))]) F1237 rfl (rn_extract (F1237.get rfl) rfl) fun _ F1239 => ?_; clear F1237
      refine qv 6 (.int .i64 0) F1239 rfl (rn_extract (F1239.get rfl) rfl) fun _ F1241 => ?_; clear F1239
      refine wpl_op (i := 7) rfl (o_new (fun g => (.pointer (some ⟨g, 0, none⟩))) [(.int .i64 0), (.slice none 0 0), (.int .i64 0)] 29 F1241 rfl rfl rfl rfl (by kernel_rfl) ?_)
      intro g1242 w1243 a1248 F1249 z1246 z1247 b1244 hx1245; clear F1241
      refine wpl_op (i := 8) rfl (o_new (fun g => (.pointer (some ⟨g, 0, none⟩))) [(.slice none 0 0), (.slice none 0 0), (.int .i64 0), (.bool false)] 25 F1249 rfl rfl rfl rfl (by kernel_rfl) ?_)
      intro g1250 w1251 a1256 F1257 z1254 z1255 b1252 hx1253; clear F1249
      have b1261 := (b1244.ext hx1253)
      refine wpl_op (i := 9) rfl (o_store (cells := [(.int .i64 (40 : Nat)), (.slice A1216 Q.length c1217), (.int .i64 (Q.length : Nat))]) F1257 rfl rfl rfl rfl (F1257.get rfl) (F1257.get rfl) b1261 inf29 rfl (by simp [Value.oneCell']) ?_)
      intro w1258 b1259 hg1260; have z1262 := hg1260.size
      have b1266 := (b1252.grownN hg1260 (by omega))
      refine wpl_op (i := 10) rfl (o_store (cells := [(.slice A1221 ((dmgD Q).sectors.length) c1222), (.slice B1223 ((dmgD Q).pending.length) e1224), (.int .i64 ((dmgD Q).left)), (.bool ((dmgD Q).stopped))]) F1257 rfl rfl rfl rfl (F1257.get rfl) (F1257.get rfl) b1266 inf25 rfl (by simp [Value.oneCell']) ?_)
      intro w1263 b1264 hg1265; have z1267 := hg1265.size
      refine qv 11 (.int .i64 0) F1257 rfl (rn_assign (F1257.get rfl)) fun _ F1269 => ?_; clear F1257
      refine wpList_nil ?_
      refine hK1126 _ _ ?_
      clear hK1126
      have F1270 := (((((((((((((((((((F1269.nil.c F1269 21 rfl).c F1269 20 rfl).c F1269 63 rfl).c F1269 62 rfl).c F1269 61 rfl).c F1269 60 rfl).c F1269 13 rfl).c F1269 59 rfl).c F1269 12 rfl).c F1269 11 rfl).c F1269 50 rfl).c F1269 10 rfl).c F1269 9 rfl).c F1269 29 rfl).c F1269 8 rfl).c F1269 3 rfl).c F1269 2 rfl).c F1269 1 rfl).c F1269 0 rfl)
      clear F1269
      refine wp_seq_k (fun K1271 hK1271 => ?_)
      refine wp_seq_k (fun K1272 hK1272 => ?_)
      refine wp_region_lit ?_
      refine qv 0 (.int .i64 0) F1270 rfl (rn_move (F1270.get rfl)) fun _ F1274 => ?_; clear F1270
      refine qv 1 (.bool false) F1274 rfl (rn_neq' (F1274.get rfl) rfl (by decide)) fun _ F1276 => ?_; clear F1274
      refine qv 2 (.bool false) F1276 rfl (rn_move (F1276.get rfl)) fun _ F1278 => ?_; clear F1276
      refine qg 3 (.slice Ae ne ce) F1278 rfl (rn_move (F1278.get rfl)) fun _ F1280 => ?_; clear F1278
      refine qg 4 (.int .i64 (ne : Nat)) F1280 rfl (rn_len_slice Try.underlying47 (F1280.get rfl)) fun _ F1282 => ?_; clear F1280
      refine qg 5 (.bool (decide (((ne : Nat) : Int) = (0 : Int)))) F1282 rfl (rn_eql (F1282.get rfl) rfl) fun _ F1284 => ?_; clear F1282
      refine qv 6 (.bool (decide (((ne : Nat) : Int) = (0 : Int)))) F1284 rfl (rn_pickF (c_false F1284 rfl rfl) (F1284.get rfl)) fun _ F1286 => ?_; clear F1284
      refine wpList_nil ?_
      refine hK1272 _ _ ?_
      clear hK1272
      have F1287 := ((((((((((((((((((((F1286.nil.c F1286 109 rfl).c F1286 21 rfl).c F1286 20 rfl).c F1286 63 rfl).c F1286 62 rfl).c F1286 61 rfl).c F1286 60 rfl).c F1286 13 rfl).c F1286 59 rfl).c F1286 12 rfl).c F1286 11 rfl).c F1286 50 rfl).c F1286 10 rfl).c F1286 9 rfl).c F1286 29 rfl).c F1286 8 rfl).c F1286 3 rfl).c F1286 2 rfl).c F1286 1 rfl).c F1286 0 rfl)
      clear F1286
      refine wp_cond_false (c_false F1287 rfl ((decide_eq_false (by omega)) : decide (((ne : Nat) : Int) = (0 : Int)) = false)) ?_
      refine wp_skip ?_
      refine hK1271 _ _ ?_
      clear hK1271
      refine wp_seq_k (fun K1289 hK1289 => ?_)
      have r1290 := (own_grownT (own_grownT (own_ext (own_ext (own_ext r180 hx1226) hx1245) hx1253) b1261 hg1260 (by decide)) b1266 hg1265 (by decide))
      have hf1291 := (Fl.own (S := fun b => w143.heap.size ≤ b) r1290 (fun b hb => hb) (intVals_one _))
      have hne0 : 0 < ne := by omega
      have hlast : E.getD (ne - 1) 0 = ((usedL Q : Nat) : Int) := by rw [hp176, hp177]; exact ends_last (by omega)
      have hu1 : 0 < usedL Q := by have := usedL_len Q; omega
      refine wp_region_lit ?_
      refine qv 0 (.int .i64 sc) F1287 rfl (rn_move (F1287.get rfl)) fun _ F1293 => ?_; clear F1287
      refine qv 1 (.int .u64 ((sc % 18446744073709551616).toNat : Nat)) F1293 rfl (rn_convW Try.underlying3 Try.underlying48 (F1293.get rfl) (cvz_64 sc)) fun _ F1295 => ?_; clear F1293
      refine qv 2 (.slice Ae ne ce) F1295 rfl (rn_move (F1295.get rfl)) fun _ F1297 => ?_; clear F1295
      refine qv 3 (.slice Ae ne ce) F1297 rfl (rn_move (F1297.get rfl)) fun _ F1299 => ?_; clear F1297
      refine qv 4 (.int .i64 (ne : Nat)) F1299 rfl (rn_len_slice Try.underlying47 (F1299.get rfl)) fun _ F1301 => ?_; clear F1299
      refine qv 5 (.int .i64 (ne - 1 : Nat)) F1301 rfl (rn_subN (a := ne) (b := 1) (F1301.get rfl) rfl (by omega) (by omega)) fun _ F1303 => ?_; clear F1301
      obtain ⟨b1304, o1305, hA1306, -⟩ := Fl.at hf1291 (by omega)
      refine qv 6 (.pointer (some ⟨b1304, o1305 + (ne - 1), none⟩)) F1303 rfl (rn_index1 Try.underlying47 inf3 ((F1303.get rfl).trans (by rw [hA1306])) (F1303.get rfl) (by omega : (0 : Int) ≤ (ne - 1 : Nat)) (by omega : ((ne - 1 : Nat) : Int) < ((ne : Nat) : Int))) fun _ F1308 => ?_; clear F1303
      refine qv 7 (.int .i64 (E.getD (ne - 1) 0)) F1308 rfl (rn_load (isAgg_no Try.underlying3 rfl) (F1308.get rfl) (Fl.cellAt hf1291 hA1306 (intVals_at (i := (ne - 1)) (by omega)))) fun _ F1310 => ?_; clear F1308
      refine qv 8 (.int .u64 (((E.getD (ne - 1) 0) % 18446744073709551616).toNat : Nat)) F1310 rfl (rn_convW Try.underlying3 Try.underlying48 (F1310.get rfl) (cvz_64 (E.getD (ne - 1) 0))) fun _ F1312 => ?_; clear F1310
      have hmod := Nat.mod_lt ((sc % 18446744073709551616).toNat) (show 0 < ((E.getD (ne - 1) 0) % 18446744073709551616).toNat by omega)
      refine qv 9 (.int .u64 (((sc % 18446744073709551616).toNat) % (((E.getD (ne - 1) 0) % 18446744073709551616).toNat) : Nat)) F1312 rfl (rn_remU (a := (sc % 18446744073709551616).toNat) (b := ((E.getD (ne - 1) 0) % 18446744073709551616).toNat) (F1312.get rfl) (F1312.get rfl) (by omega)) fun _ F1314 => ?_; clear F1312
      refine qv 10 (.int .i64 (((sc % 18446744073709551616).toNat) % (((E.getD (ne - 1) 0) % 18446744073709551616).toNat) : Nat)) F1314 rfl (rn_conv Try.underlying48 Try.underlying3 (F1314.get rfl) (IntWalk.i64_in _ (by omega))) fun _ F1316 => ?_; clear F1314
      refine qv 11 (.int .i64 (((sc % 18446744073709551616).toNat) % (((E.getD (ne - 1) 0) % 18446744073709551616).toNat) : Nat)) F1316 rfl (rn_assign (F1316.get rfl)) fun _ F1318 => ?_; clear F1316
      refine wpList_nil ?_
      refine hK1289 _ _ ?_
      clear hK1289
      have F1319 := (((((((((((((((((((((F1318.nil.c F1318 22 rfl).c F1318 109 rfl).c F1318 21 rfl).c F1318 20 rfl).c F1318 63 rfl).c F1318 62 rfl).c F1318 61 rfl).c F1318 60 rfl).c F1318 13 rfl).c F1318 59 rfl).c F1318 12 rfl).c F1318 11 rfl).c F1318 50 rfl).c F1318 10 rfl).c F1318 9 rfl).c F1318 29 rfl).c F1318 8 rfl).c F1318 3 rfl).c F1318 2 rfl).c F1318 1 rfl).c F1318 0 rfl)
      clear F1318
      refine wp_seq_k (fun K1320 hK1320 => ?_)
      refine wp_seq_k (fun K1321 hK1321 => ?_)
      obtain ⟨kk, hkk⟩ : ∃ kk, ((sc % 18446744073709551616).toNat) % (((E.getD (ne - 1) 0) % 18446744073709551616).toNat) = kk := ⟨_, rfl⟩
      rw [hkk] at F1319 hmod
      have hkq : kk < usedL Q := by omega
      have hdl := dmg_len hp175
      refine wp_region_lit ?_
      refine qv 0 (.int .i64 (kk : Nat)) F1319 rfl (rn_move (F1319.get rfl)) fun _ F1323 => ?_; clear F1319
      refine qv 1 (.pointer (some ⟨g1250, 0, none⟩)) F1323 rfl (rn_field Try.underlying25 rfl (by kernel_rfl) (F1323.get rfl) rfl) fun _ F1325 => ?_; clear F1323
      refine qv 2 (.slice A1221 ((dmgD Q).sectors.length) c1222) F1325 rfl (rn_load (isAgg_no Try.underlying22 rfl) (F1325.get rfl) (b1264.rule.1 0)) fun _ F1327 => ?_; clear F1325
      refine qv 3 (.int .i64 ((dmgD Q).sectors.length : Nat)) F1327 rfl (rn_len_slice Try.underlying22 (F1327.get rfl)) fun _ F1329 => ?_; clear F1327
      refine qv 4 (.bool (decide ((((dmgD Q).sectors.length : Nat) : Int) ≤ ((kk : Nat) : Int)))) F1329 rfl (rn_geq (F1329.get rfl) (F1329.get rfl)) fun _ F1331 => ?_; clear F1329
      refine qv 5 (.bool (decide ((((dmgD Q).sectors.length : Nat) : Int) ≤ ((kk : Nat) : Int)))) F1331 rfl (rn_move (F1331.get rfl)) fun _ F1333 => ?_; clear F1331
      refine qg 6 (.slice Ae ne ce) F1333 ((decide_eq_false (by omega)) : decide ((((dmgD Q).sectors.length : Nat) : Int) ≤ ((kk : Nat) : Int)) = false) (rn_move (F1333.get rfl)) fun _ F1336 => ?_; clear F1333
      refine qg 7 (.int .i64 (ne : Nat)) F1336 ((decide_eq_false (by omega)) : decide ((((dmgD Q).sectors.length : Nat) : Int) ≤ ((kk : Nat) : Int)) = false) (rn_len_slice Try.underlying47 (F1336.get rfl)) fun _ F1338 => ?_; clear F1336
      refine qg 8 (.pointer (some ⟨g135, 1, none⟩)) F1338 ((decide_eq_false (by omega)) : decide ((((dmgD Q).sectors.length : Nat) : Int) ≤ ((kk : Nat) : Int)) = false) (rn_field Try.underlying29 rfl (by kernel_rfl) (F1338.get rfl) rfl) fun _ F1340 => ?_; clear F1338
      have b1341 := (((((b179.ext hx1226).ext hx1245).ext hx1253).grownN hg1260 (by omega)).grownN hg1265 (by omega))
      refine qg 9 (.slice Aq Q.length cq) F1340 ((decide_eq_false (by omega)) : decide ((((dmgD Q).sectors.length : Nat) : Int) ≤ ((kk : Nat) : Int)) = false) (rn_load (isAgg_no Try.underlying22 rfl) (F1340.get rfl) (b1341.rule.1 1)) fun _ F1343 => ?_; clear F1340
      refine qg 10 (.int .i64 (Q.length : Nat)) F1343 ((decide_eq_false (by omega)) : decide ((((dmgD Q).sectors.length : Nat) : Int) ≤ ((kk : Nat) : Int)) = false) (rn_len_slice Try.underlying22 (F1343.get rfl)) fun _ F1345 => ?_; clear F1343
      refine qg 11 (.bool (decide (((Q.length : Nat) : Int) < ((ne : Nat) : Int)))) F1345 ((decide_eq_false (by omega)) : decide ((((dmgD Q).sectors.length : Nat) : Int) ≤ ((kk : Nat) : Int)) = false) (rn_gtr (F1345.get rfl) (F1345.get rfl)) fun _ F1347 => ?_; clear F1345
      refine qv 12 (.bool (decide (((Q.length : Nat) : Int) < ((ne : Nat) : Int)))) F1347 rfl (rn_pickF (c_false F1347 rfl ((decide_eq_false (by omega)) : decide ((((dmgD Q).sectors.length : Nat) : Int) ≤ ((kk : Nat) : Int)) = false)) (F1347.get rfl)) fun _ F1349 => ?_; clear F1347
      refine qv 13 (.bool (decide (((Q.length : Nat) : Int) < ((ne : Nat) : Int)))) F1349 rfl (rn_move (F1349.get rfl)) fun _ F1351 => ?_; clear F1349
      refine qg 14 (.pointer (some ⟨g1250, 0, none⟩)) F1351 ((decide_eq_false (by omega)) : decide (((Q.length : Nat) : Int) < ((ne : Nat) : Int)) = false) (rn_field Try.underlying25 rfl (by kernel_rfl) (F1351.get rfl) rfl) fun _ F1354 => ?_; clear F1351
      refine qg 15 (.slice A1221 ((dmgD Q).sectors.length) c1222) F1354 ((decide_eq_false (by omega)) : decide (((Q.length : Nat) : Int) < ((ne : Nat) : Int)) = false) (rn_load (isAgg_no Try.underlying22 rfl) (F1354.get rfl) (b1264.rule.1 0)) fun _ F1356 => ?_; clear F1354
      refine qg 16 (.int .i64 (kk : Nat)) F1356 ((decide_eq_false (by omega)) : decide (((Q.length : Nat) : Int) < ((ne : Nat) : Int)) = false) (rn_move (F1356.get rfl)) fun _ F1358 => ?_; clear F1356
      have d1372 := ((RDk.len hd1233).1.pres (((((Pres.refl w1225).ext hx1245).ext hx1253).grownN hg1260 (fun h => by first | (simp only [Clip, ne_eq, not_true_eq_false, and_false, false_and] at h; done) | (have h2 := h.2; omega) | (rcases h.1 with (h | h) | h <;> first | (simp only [Clip, ne_eq, not_true_eq_false, and_false, false_and] at h; done) | omega | (simp only [Clip] at h; omega)) | (rcases h.1 with h | h <;> first | (simp only [Clip, ne_eq, not_true_eq_false, and_false, false_and] at h; done) | omega | (simp only [Clip] at h; omega)))).grownN hg1265 (fun h => by first | (simp only [Clip, ne_eq, not_true_eq_false, and_false, false_and] at h; done) | (have h2 := h.2; omega) | (rcases h.1 with (h | h) | h <;> first | (simp only [Clip, ne_eq, not_true_eq_false, and_false, false_and] at h; done) | omega | (simp only [Clip] at h; omega)) | (rcases h.1 with h | h <;> first | (simp only [Clip, ne_eq, not_true_eq_false, and_false, false_and] at h; done) | omega | (simp only [Clip] at h; omega)))))
      obtain ⟨x1359, hi1360, hm1361⟩ := nth_of_lt (dmgD Q).sectors kk (by omega)
      obtain ⟨b1362, o1363, A1364, c1365, hA1366, hl1367, hc1368, hr1369, le1370, le1371⟩ := RBss.get d1372 hi1360
      have z1373 : x1359.length = 128 := dmg_128 x1359 (List.mem_of_getElem? hi1360)
      have z1374 := mod8 (x1359.getD 10 0); have z1375 := and1_fact (x1359.getD 10 0); have z1376 := and2_fact (x1359.getD 10 0); have z1377 := UInt8.toNat_lt (x1359.getD 10 0)
      refine qg 17 (.pointer (some ⟨b1362, o1363 + kk, none⟩)) F1358 ((decide_eq_false (by omega)) : decide (((Q.length : Nat) : Int) < ((ne : Nat) : Int)) = false) (rn_index1 Try.underlying22 inf35 ((F1358.get rfl).trans (by rw [hA1366])) (F1358.get rfl) (by omega : (0 : Int) ≤ (kk : Nat)) (by omega : ((kk : Nat) : Int) < (((dmgD Q).sectors.length : Nat) : Int))) fun _ F1379 => ?_; clear F1358
      refine qg 18 (.slice A1364 x1359.length c1365) F1379 ((decide_eq_false (by omega)) : decide (((Q.length : Nat) : Int) < ((ne : Nat) : Int)) = false) (rn_load (isAgg_no Try.underlying35 rfl) (F1379.get rfl) (Ext.keep (Ext.refl w1263) hc1368)) fun _ F1381 => ?_; clear F1379
      refine qg 19 (.int .i64 (x1359.length : Nat)) F1381 ((decide_eq_false (by omega)) : decide (((Q.length : Nat) : Int) < ((ne : Nat) : Int)) = false) (rn_len_slice Try.underlying35 (F1381.get rfl)) fun _ F1383 => ?_; clear F1381
      refine qg 20 (.bool (decide (((x1359.length : Nat) : Int) ≠ (128 : Int)))) F1383 ((decide_eq_false (by omega)) : decide (((Q.length : Nat) : Int) < ((ne : Nat) : Int)) = false) (rn_neq (F1383.get rfl) rfl) fun _ F1385 => ?_; clear F1383
      refine qv 21 (.bool (decide (((x1359.length : Nat) : Int) ≠ (128 : Int)))) F1385 rfl (rn_pickF (c_false F1385 rfl ((decide_eq_false (by omega)) : decide (((Q.length : Nat) : Int) < ((ne : Nat) : Int)) = false)) (F1385.get rfl)) fun _ F1387 => ?_; clear F1385
      refine wpList_nil ?_
      refine hK1321 _ _ ?_
      clear hK1321
      have F1388 := ((((((((((((((((((((((F1387.nil.c F1387 144 rfl).c F1387 22 rfl).c F1387 109 rfl).c F1387 21 rfl).c F1387 20 rfl).c F1387 63 rfl).c F1387 62 rfl).c F1387 61 rfl).c F1387 60 rfl).c F1387 13 rfl).c F1387 59 rfl).c F1387 12 rfl).c F1387 11 rfl).c F1387 50 rfl).c F1387 10 rfl).c F1387 9 rfl).c F1387 29 rfl).c F1387 8 rfl).c F1387 3 rfl).c F1387 2 rfl).c F1387 1 rfl).c F1387 0 rfl)
      clear F1387
      refine wp_cond_false (c_false F1388 rfl ((decide_eq_false (by omega)) : decide (((x1359.length : Nat) : Int) ≠ (128 : Int)) = false)) ?_
      refine wp_skip ?_
      refine hK1320 _ _ ?_
      clear hK1320
      refine wp_seq_k (fun K1390 hK1390 => ?_)
      refine wp_region_lit ?_
      refine wpl_op (i := 0) rfl (o_new (fun g => (.slice (some ⟨g, 0, none⟩) 0 0)) [] 5 F1388 rfl rfl rfl rfl (rn_buildSlice (parts0 ) (by kernel_rfl)) ?_)
      intro g1391 w1392 a1397 F1398 z1395 z1396 b1393 hx1394; clear F1388
      refine qv 1 (.pointer (some ⟨g1250, 0, none⟩)) F1398 rfl (rn_field Try.underlying25 rfl (by kernel_rfl) (F1398.get rfl) rfl) fun _ F1400 => ?_; clear F1398
      have b1401 := (b1264.ext hx1394)
      refine qv 2 (.slice A1221 ((dmgD Q).sectors.length) c1222) F1400 rfl (rn_load (isAgg_no Try.underlying22 rfl) (F1400.get rfl) (b1401.rule.1 0)) fun _ F1403 => ?_; clear F1400
      refine qv 3 (.int .i64 (kk : Nat)) F1403 rfl (rn_move (F1403.get rfl)) fun _ F1405 => ?_; clear F1403
      have d1419 := ((RDk.len hd1233).1.pres ((((((Pres.refl w1225).ext hx1245).ext hx1253).grownN hg1260 (fun h => by first | (simp only [Clip, ne_eq, not_true_eq_false, and_false, false_and] at h; done) | (have h2 := h.2; omega) | (rcases h.1 with (h | h) | h <;> first | (simp only [Clip, ne_eq, not_true_eq_false, and_false, false_and] at h; done) | omega | (simp only [Clip] at h; omega)) | (rcases h.1 with h | h <;> first | (simp only [Clip, ne_eq, not_true_eq_false, and_false, false_and] at h; done) | omega | (simp only [Clip] at h; omega)))).grownN hg1265 (fun h => by first | (simp only [Clip, ne_eq, not_true_eq_false, and_false, false_and] at h; done) | (have h2 := h.2; omega) | (rcases h.1 with (h | h) | h <;> first | (simp only [Clip, ne_eq, not_true_eq_false, and_false, false_and] at h; done) | omega | (simp only [Clip] at h; omega)) | (rcases h.1 with h | h <;> first | (simp only [Clip, ne_eq, not_true_eq_false, and_false, false_and] at h; done) | omega | (simp only [Clip] at h; omega)))).ext hx1394))
      obtain ⟨b1409, o1410, A1411, c1412, hA1413, hl1414, hc1415, hr1416, le1417, le1418⟩ := RBss.get d1419 hi1360
      refine qv 4 (.pointer (some ⟨b1409, o1410 + kk, none⟩)) F1405 rfl (rn_index1 Try.underlying22 inf35 ((F1405.get rfl).trans (by rw [hA1413])) (F1405.get rfl) (by omega : (0 : Int) ≤ (kk : Nat)) (by omega : ((kk : Nat) : Int) < (((dmgD Q).sectors.length : Nat) : Int))) fun _ F1421 => ?_; clear F1405
      refine qv 5 (.slice A1411 x1359.length c1412) F1421 rfl (rn_load (isAgg_no Try.underlying35 rfl) (F1421.get rfl) (Ext.keep (Ext.refl w1392) hc1415)) fun _ F1423 => ?_; clear F1421
      have hf1433 := (own_blk0 (k := 1) b1393)
      have r1434 := (own_ext r1290 hx1394)
      have hf1435 := r1434
      have ap1436 : Apart (.slice Ae ne ce) (.slice (some ⟨g1391, 0, none⟩) 0 0) := (Apart.types r1434 (own_blk0 (k := 1) b1393) (by decide))
      refine wpl_op (i := 6) rfl (o_appB (zs := byteVals x1359) El35 F1423 rfl rfl rfl rfl rfl (F1423.get rfl) (F1423.get rfl) hf1433 (Fl.cel (RBs.fl hr1416)).2.2 (by omega) (by omega) (by omega) (List.nil_append _) ?_)
      intro A1425 c1426 w1427 a1437 F1438 r1428 hg1429 z1430 z1431 hnb1432; clear F1423; have z1439 := hg1429.size
      have hg1440 : w1392.grownBy w1427 (some g1391) := hg1429
      refine qv 7 (.slice A1425 (0 + x1359.length) c1426) F1438 rfl (rn_assign (F1438.get rfl)) fun _ F1442 => ?_; clear F1438
      refine wpList_nil ?_
      refine hK1390 _ _ ?_
      clear hK1390
      have F1443 := (((((((((((((((((((((((F1442.nil.c F1442 23 rfl).c F1442 144 rfl).c F1442 22 rfl).c F1442 109 rfl).c F1442 21 rfl).c F1442 20 rfl).c F1442 63 rfl).c F1442 62 rfl).c F1442 61 rfl).c F1442 60 rfl).c F1442 13 rfl).c F1442 59 rfl).c F1442 12 rfl).c F1442 11 rfl).c F1442 50 rfl).c F1442 10 rfl).c F1442 9 rfl).c F1442 29 rfl).c F1442 8 rfl).c F1442 3 rfl).c F1442 2 rfl).c F1442 1 rfl).c F1442 0 rfl)
      clear F1442
      refine wp_seq_k (fun K1444 hK1444 => ?_)
      have hf1445 := r1428
      obtain ⟨gS, cS, eS, hgS1, hgS2, hgS3, hgS4⟩ := own_form hf1445 (by omega)
      injection eS with eA eN eC; subst eA; subst eC
      have r1446 := (own_grownR r1434 hg1429 ap1436)
      have hf1447 := r1446
      have hnb1448 := own_types hf1445 hf1447 (by decide) gS rfl
      refine wp_region_lit ?_
      refine qv 0 (.slice (some ⟨gS, 0, none⟩) (0 + x1359.length) c1426) F1443 rfl (rn_move (F1443.get rfl)) fun _ F1450 => ?_; clear F1443
      refine qv 1 (.int .i64 at0) F1450 rfl (rn_move (F1450.get rfl)) fun _ F1452 => ?_; clear F1450
      refine qv 2 (.int .u64 ((at0 % 18446744073709551616).toNat : Nat)) F1452 rfl (rn_convW Try.underlying3 Try.underlying48 (F1452.get rfl) (cvz_64 at0)) fun _ F1454 => ?_; clear F1452
      refine qv 3 (.int .u64 (((at0 % 18446744073709551616).toNat) % 128 : Nat)) F1454 rfl (rn_remU (a := (at0 % 18446744073709551616).toNat) (b := 128) (F1454.get rfl) rfl (by omega)) fun _ F1456 => ?_; clear F1454
      refine qv 4 (.pointer (some ⟨gS, 0 + (((at0 % 18446744073709551616).toNat) % 128), none⟩)) F1456 rfl (rn_index1 Try.underlying35 inf5 (F1456.get rfl) (F1456.get rfl) (by omega : (0 : Int) ≤ (((at0 % 18446744073709551616).toNat) % 128 : Nat)) (by omega : ((((at0 % 18446744073709551616).toNat) % 128 : Nat) : Int) < ((0 + x1359.length : Nat) : Int))) fun _ F1458 => ?_; clear F1456
      have hf1459 := (Fl.own (S := fun b => g1391 ≤ b) hf1445 (fun b hb => hb) (byteVals_one _))
      refine qv 5 (.int .u8 ((x1359.getD (((at0 % 18446744073709551616).toNat) % 128) 0).toNat : Nat)) F1458 rfl (rn_load (isAgg_no Try.underlying5 rfl) (F1458.get rfl) (Fl.cellAt hf1459 rfl (byteVals_at (i := (((at0 % 18446744073709551616).toNat) % 128)) (by omega)))) fun _ F1461 => ?_; clear F1458
      refine qv 6 (.int .u8 (q.toNat : Nat)) F1461 rfl (rn_move (F1461.get rfl)) fun _ F1463 => ?_; clear F1461
      refine qv 7 (.int .u8 (((x1359.getD (((at0 % 18446744073709551616).toNat) % 128) 0) ^^^ q).toNat : Nat)) F1463 rfl (rn_xor8 (a := (x1359.getD (((at0 % 18446744073709551616).toNat) % 128) 0)) (b := q) (F1463.get rfl) (F1463.get rfl)) fun _ F1465 => ?_; clear F1463
      refine qv 8 (.pointer (some ⟨gS, 0 + (((at0 % 18446744073709551616).toNat) % 128), none⟩)) F1465 rfl (rn_index1 Try.underlying35 inf5 (F1465.get rfl) (F1465.get rfl) (by omega : (0 : Int) ≤ (((at0 % 18446744073709551616).toNat) % 128 : Nat)) (by omega : ((((at0 % 18446744073709551616).toNat) % 128 : Nat) : Int) < ((0 + x1359.length : Nat) : Int))) fun _ F1467 => ?_; clear F1465
      refine wpl_op (i := 9) rfl (o_storeRow1 (j := (((at0 % 18446744073709551616).toNat) % 128)) (zs := byteVals (x1359.set (((at0 % 18446744073709551616).toNat) % 128) ((x1359.getD (((at0 % 18446744073709551616).toNat) % 128) 0) ^^^ q))) F1467 rfl rfl rfl rfl (F1467.get rfl) (F1467.get rfl) hf1445 inf5 (by omega) (by omega) rfl (byteVals_set rfl) ?_)
      intro w1468 r1469 hg1470; have z1471 := hg1470.size
      refine wpList_nil ?_
      refine hK1444 _ _ ?_
      clear hK1444
      have F1472 := (((((((((((((((((((((((F1467.nil.c F1467 23 rfl).c F1467 144 rfl).c F1467 22 rfl).c F1467 109 rfl).c F1467 21 rfl).c F1467 20 rfl).c F1467 63 rfl).c F1467 62 rfl).c F1467 61 rfl).c F1467 60 rfl).c F1467 13 rfl).c F1467 59 rfl).c F1467 12 rfl).c F1467 11 rfl).c F1467 50 rfl).c F1467 10 rfl).c F1467 9 rfl).c F1467 29 rfl).c F1467 8 rfl).c F1467 3 rfl).c F1467 2 rfl).c F1467 1 rfl).c F1467 0 rfl)
      clear F1467
      refine wp_seq_k (fun K1473 hK1473 => ?_)
      refine wp_region_lit ?_
      have b1474 := ((b1401.grownN hg1440 (by omega)).grownN hg1470 (by omega))
      refine qv 0 (.agg #[(.slice A1221 ((dmgD Q).sectors.length) c1222), (.slice B1223 ((dmgD Q).pending.length) e1224), (.int .i64 ((dmgD Q).left)), (.bool ((dmgD Q).stopped))]) F1472 rfl (rn_loadBlk (F1472.get rfl) b1474 Try.underlying25 rfl inf25) fun _ F1476 => ?_; clear F1472
      refine qv 1 (.int .i64 (kk : Nat)) F1476 rfl (rn_move (F1476.get rfl)) fun _ F1478 => ?_; clear F1476
      refine qv 2 (.slice (some ⟨gS, 0, none⟩) (0 + x1359.length) c1426) F1478 rfl (rn_move (F1478.get rfl)) fun _ F1480 => ?_; clear F1478
      have d1481 := (hd1233.pres ((((((((Pres.refl w1225).ext hx1245).ext hx1253).grownN hg1260 (fun h => by first | (simp only [Clip, ne_eq, not_true_eq_false, and_false, false_and] at h; done) | (have h2 := h.2; omega) | (rcases h.1 with (h | h) | h <;> first | (simp only [Clip, ne_eq, not_true_eq_false, and_false, false_and] at h; done) | omega | (simp only [Clip] at h; omega)) | (rcases h.1 with h | h <;> first | (simp only [Clip, ne_eq, not_true_eq_false, and_false, false_and] at h; done) | omega | (simp only [Clip] at h; omega)))).grownN hg1265 (fun h => by first | (simp only [Clip, ne_eq, not_true_eq_false, and_false, false_and] at h; done) | (have h2 := h.2; omega) | (rcases h.1 with (h | h) | h <;> first | (simp only [Clip, ne_eq, not_true_eq_false, and_false, false_and] at h; done) | omega | (simp only [Clip] at h; omega)) | (rcases h.1 with h | h <;> first | (simp only [Clip, ne_eq, not_true_eq_false, and_false, false_and] at h; done) | omega | (simp only [Clip] at h; omega)))).ext hx1394).grownN hg1440 (fun h => by first | (simp only [Clip, ne_eq, not_true_eq_false, and_false, false_and] at h; done) | (have h2 := h.2; omega) | (rcases h.1 with (h | h) | h <;> first | (simp only [Clip, ne_eq, not_true_eq_false, and_false, false_and] at h; done) | omega | (simp only [Clip] at h; omega)) | (rcases h.1 with h | h <;> first | (simp only [Clip, ne_eq, not_true_eq_false, and_false, false_and] at h; done) | omega | (simp only [Clip] at h; omega)))).grownN hg1470 (fun h => by first | (simp only [Clip, ne_eq, not_true_eq_false, and_false, false_and] at h; done) | (have h2 := h.2; omega) | (rcases h.1 with (h | h) | h <;> first | (simp only [Clip, ne_eq, not_true_eq_false, and_false, false_and] at h; done) | omega | (simp only [Clip] at h; omega)) | (rcases h.1 with h | h <;> first | (simp only [Clip, ne_eq, not_true_eq_false, and_false, false_and] at h; done) | omega | (simp only [Clip] at h; omega)))))
      have hf1482 := (Fl.own (S := fun b => g1391 ≤ b) r1469 (fun b hb => hb) (byteVals_one _))
      have he1483 := dmg_write hp175 (k := kk) (by omega) (s := x1359.set (((at0 % 18446744073709551616).toNat) % 128) ((x1359.getD (((at0 % 18446744073709551616).toNat) % 128) 0) ^^^ q)) (by rw [List.length_set]; omega)
      have hdo := dmg_open hp175 hkq hi1360 (i := (((at0 % 18446744073709551616).toNat) % 128)) (c := ((x1359.getD (((at0 % 18446744073709551616).toNat) % 128) 0) ^^^ q)) (by omega) (xor_ne hq) (s := x1359.set (((at0 % 18446744073709551616).toNat) % 128) ((x1359.getD (((at0 % 18446744073709551616).toNat) % 128) 0) ^^^ q)) rfl
      have hds := dmg_sync2 hp175 (k := kk) (by omega) (s := x1359.set (((at0 % 18446744073709551616).toNat) % 128) ((x1359.getD (((at0 % 18446744073709551616).toNat) % 128) 0) ^^^ q)) (by rw [List.length_set]; omega)
      refine wpl_op (i := 3) rfl (o_call F1480 rfl rfl rfl rfl (rn_call (args3 (F1480.get rfl) (F1480.get rfl) (F1480.get rfl)) rfl (by kernel_rfl)) (calls_conv (write_any (S := (fun b => (Clip (fun b => Fr S w b ∧ b ≠ g31 ∧ b ≠ g135) w1225) b ∨ (fun b => g1391 ≤ b) b)) _ _ (dmgD Q) _ (x1359.set (((at0 % 18446744073709551616).toNat) % 128) ((x1359.getD (((at0 % 18446744073709551616).toNat) % 128) 0) ^^^ q)) _ (d1481.sub (fun _ => Or.inl)) ((Fl.rbs hf1482).sub (fun _ => Or.inr))) (congrArg Prod.fst he1483) (congrArg Prod.snd he1483)) ?_)
      rintro _ w1490 ⟨v1489, rfl, hd1488, hx1491⟩
      obtain ⟨A1484, c1485, B1486, e1487, rfl, -, -⟩ := hd1488.form
      have hd1488 := hd1488.clip
      refine ⟨_, rfl, ?_⟩; intro a1492 F1493; clear F1480; have z1494 := hx1491.size
      refine qv 4 (.tuple #[(.agg #[(.slice A1484 ((dmgW Q kk (x1359.set (((at0 % 18446744073709551616).toNat) % 128) ((x1359.getD (((at0 % 18446744073709551616).toNat) % 128) 0) ^^^ q))).sectors.length) c1485), (.slice B1486 ((dmgW Q kk (x1359.set (((at0 % 18446744073709551616).toNat) % 128) ((x1359.getD (((at0 % 18446744073709551616).toNat) % 128) 0) ^^^ q))).pending.length) e1487), (.int .i64 ((dmgW Q kk (x1359.set (((at0 % 18446744073709551616).toNat) % 128) ((x1359.getD (((at0 % 18446744073709551616).toNat) % 128) 0) ^^^ q))).left)), (.bool ((dmgW Q kk (x1359.set (((at0 % 18446744073709551616).toNat) % 128) ((x1359.getD (((at0 % 18446744073709551616).toNat) % 128) 0) ^^^ q))).stopped))]), (.int .i64 0)]) F1493 rfl (rn_move (F1493.get rfl)) fun _ F1496 => ?_; clear F1493
      refine qv 5 (.agg #[(.slice A1484 ((dmgW Q kk (x1359.set (((at0 % 18446744073709551616).toNat) % 128) ((x1359.getD (((at0 % 18446744073709551616).toNat) % 128) 0) ^^^ q))).sectors.length) c1485), (.slice B1486 ((dmgW Q kk (x1359.set (((at0 % 18446744073709551616).toNat) % 128) ((x1359.getD (((at0 % 18446744073709551616).toNat) % 128) 0) ^^^ q))).pending.length) e1487), (.int .i64 ((dmgW Q kk (x1359.set (((at0 % 18446744073709551616).toNat) % 128) ((x1359.getD (((at0 % 18446744073709551616).toNat) % 128) 0) ^^^ q))).left)), (.bool ((dmgW Q kk (x1359.set (((at0 % 18446744073709551616).toNat) % 128) ((x1359.getD (((at0 % 18446744073709551616).toNat) % 128) 0) ^^^ q))).stopped))]) F1496 rfl (rn_extract (F1496.get rfl) rfl) fun _ F1498 => ?_; clear F1496
      refine qv 6 (.int .i64 0) F1498 rfl (rn_extract (F1498.get rfl) rfl) fun _ F1500 => ?_; clear F1498
      have b1504 := (b1474.ext hx1491)
      refine wpl_op (i := 7) rfl (o_store (cells := [(.slice A1484 ((dmgW Q kk (x1359.set (((at0 % 18446744073709551616).toNat) % 128) ((x1359.getD (((at0 % 18446744073709551616).toNat) % 128) 0) ^^^ q))).sectors.length) c1485), (.slice B1486 ((dmgW Q kk (x1359.set (((at0 % 18446744073709551616).toNat) % 128) ((x1359.getD (((at0 % 18446744073709551616).toNat) % 128) 0) ^^^ q))).pending.length) e1487), (.int .i64 ((dmgW Q kk (x1359.set (((at0 % 18446744073709551616).toNat) % 128) ((x1359.getD (((at0 % 18446744073709551616).toNat) % 128) 0) ^^^ q))).left)), (.bool ((dmgW Q kk (x1359.set (((at0 % 18446744073709551616).toNat) % 128) ((x1359.getD (((at0 % 18446744073709551616).toNat) % 128) 0) ^^^ q))).stopped))]) F1500 rfl rfl rfl rfl (F1500.get rfl) (F1500.get rfl) b1504 inf25 rfl (by simp [Value.oneCell']) ?_)
      intro w1501 b1502 hg1503; have z1505 := hg1503.size
      refine qv 8 (.int .i64 0) F1500 rfl (rn_assign (F1500.get rfl)) fun _ F1507 => ?_; clear F1500
      refine wpList_nil ?_
      refine hK1473 _ _ ?_
      clear hK1473
      have F1508 := (((((((((((((((((((((((F1507.nil.c F1507 23 rfl).c F1507 144 rfl).c F1507 22 rfl).c F1507 109 rfl).c F1507 21 rfl).c F1507 20 rfl).c F1507 63 rfl).c F1507 62 rfl).c F1507 61 rfl).c F1507 60 rfl).c F1507 13 rfl).c F1507 59 rfl).c F1507 12 rfl).c F1507 11 rfl).c F1507 50 rfl).c F1507 10 rfl).c F1507 9 rfl).c F1507 29 rfl).c F1507 8 rfl).c F1507 3 rfl).c F1507 2 rfl).c F1507 1 rfl).c F1507 0 rfl)
      clear F1507
      refine wp_seq_k (fun K1509 hK1509 => ?_)
      refine wp_region_lit ?_
      refine qv 0 (.agg #[(.slice A1484 ((dmgW Q kk (x1359.set (((at0 % 18446744073709551616).toNat) % 128) ((x1359.getD (((at0 % 18446744073709551616).toNat) % 128) 0) ^^^ q))).sectors.length) c1485), (.slice B1486 ((dmgW Q kk (x1359.set (((at0 % 18446744073709551616).toNat) % 128) ((x1359.getD (((at0 % 18446744073709551616).toNat) % 128) 0) ^^^ q))).pending.length) e1487), (.int .i64 ((dmgW Q kk (x1359.set (((at0 % 18446744073709551616).toNat) % 128) ((x1359.getD (((at0 % 18446744073709551616).toNat) % 128) 0) ^^^ q))).left)), (.bool ((dmgW Q kk (x1359.set (((at0 % 18446744073709551616).toNat) % 128) ((x1359.getD (((at0 % 18446744073709551616).toNat) % 128) 0) ^^^ q))).stopped))]) F1508 rfl (rn_loadBlk (F1508.get rfl) b1502 Try.underlying25 rfl inf25) fun _ F1511 => ?_; clear F1508
      have d1512 := (hd1488.pres ((Pres.refl w1490).grownN hg1503 (fun h => by first | (simp only [Clip, ne_eq, not_true_eq_false, and_false, false_and] at h; done) | (have h2 := h.2; omega) | (rcases h.1 with (h | h) | h <;> first | (simp only [Clip, ne_eq, not_true_eq_false, and_false, false_and] at h; done) | omega | (simp only [Clip] at h; omega)) | (rcases h.1 with h | h <;> first | (simp only [Clip, ne_eq, not_true_eq_false, and_false, false_and] at h; done) | omega | (simp only [Clip] at h; omega)))))
      refine wpl_op (i := 1) rfl (o_call F1511 rfl rfl rfl rfl (rn_call (args1 (F1511.get rfl)) rfl (by kernel_rfl)) (calls_conv (sync_any (S := (Clip (Fr (fun b => (Clip (fun b => Fr S w b ∧ b ≠ g31 ∧ b ≠ g135) w1225) b ∨ (fun b => g1391 ≤ b) b) w1468) w1490)) _ (dmgW Q kk (x1359.set (((at0 % 18446744073709551616).toNat) % 128) ((x1359.getD (((at0 % 18446744073709551616).toNat) % 128) 0) ^^^ q))) _ d1512) (congrArg Prod.fst hds) (congrArg Prod.snd hds)) ?_)
      rintro _ w1519 ⟨v1518, rfl, hd1517, hx1520⟩
      obtain ⟨A1513, c1514, B1515, e1516, rfl, -, -⟩ := hd1517.form
      have hd1517 := hd1517.clip
      refine ⟨_, rfl, ?_⟩; intro a1521 F1522; clear F1511; have z1523 := hx1520.size
      refine qv 2 (.tuple #[(.agg #[(.slice A1513 ((dmgS Q kk (x1359.set (((at0 % 18446744073709551616).toNat) % 128) ((x1359.getD (((at0 % 18446744073709551616).toNat) % 128) 0) ^^^ q))).sectors.length) c1514), (.slice B1515 ((dmgS Q kk (x1359.set (((at0 % 18446744073709551616).toNat) % 128) ((x1359.getD (((at0 % 18446744073709551616).toNat) % 128) 0) ^^^ q))).pending.length) e1516), (.int .i64 ((dmgS Q kk (x1359.set (((at0 % 18446744073709551616).toNat) % 128) ((x1359.getD (((at0 % 18446744073709551616).toNat) % 128) 0) ^^^ q))).left)), (.bool ((dmgS Q kk (x1359.set (((at0 % 18446744073709551616).toNat) % 128) ((x1359.getD (((at0 % 18446744073709551616).toNat) % 128) 0) ^^^ q))).stopped))]), (.int .i64 0)]) F1522 rfl (rn_move (F1522.get rfl)) fun _ F1525 => ?_; clear F1522
      refine qv 3 (.agg #[(.slice A1513 ((dmgS Q kk (x1359.set (((at0 % 18446744073709551616).toNat) % 128) ((x1359.getD (((at0 % 18446744073709551616).toNat) % 128) 0) ^^^ q))).sectors.length) c1514), (.slice B1515 ((dmgS Q kk (x1359.set (((at0 % 18446744073709551616).toNat) % 128) ((x1359.getD (((at0 % 18446744073709551616).toNat) % 128) 0) ^^^ q))).pending.length) e1516), (.int .i64 ((dmgS Q kk (x1359.set (((at0 % 18446744073709551616).toNat) % 128) ((x1359.getD (((at0 % 18446744073709551616).toNat) % 128) 0) ^^^ q))).left)), (.bool ((dmgS Q kk (x1359.set (((at0 % 18446744073709551616).toNat) % 128) ((x1359.getD (((at0 % 18446744073709551616).toNat) % 128) 0) ^^^ q))).stopped))]) F1525 rfl (rn_extract (F1525.get rfl) rfl) fun _ F1527 => ?_; clear F1525
      refine qv 4 (.int .i64 0) F1527 rfl (rn_extract (F1527.get rfl) rfl) fun _ F1529 => ?_; clear F1527
      have b1533 := (b1502.ext hx1520)
      refine wpl_op (i := 5) rfl (o_store (cells := [(.slice A1513 ((dmgS Q kk (x1359.set (((at0 % 18446744073709551616).toNat) % 128) ((x1359.getD (((at0 % 18446744073709551616).toNat) % 128) 0) ^^^ q))).sectors.length) c1514), (.slice B1515 ((dmgS Q kk (x1359.set (((at0 % 18446744073709551616).toNat) % 128) ((x1359.getD (((at0 % 18446744073709551616).toNat) % 128) 0) ^^^ q))).pending.length) e1516), (.int .i64 ((dmgS Q kk (x1359.set (((at0 % 18446744073709551616).toNat) % 128) ((x1359.getD (((at0 % 18446744073709551616).toNat) % 128) 0) ^^^ q))).left)), (.bool ((dmgS Q kk (x1359.set (((at0 % 18446744073709551616).toNat) % 128) ((x1359.getD (((at0 % 18446744073709551616).toNat) % 128) 0) ^^^ q))).stopped))]) F1529 rfl rfl rfl rfl (F1529.get rfl) (F1529.get rfl) b1533 inf25 rfl (by simp [Value.oneCell']) ?_)
      intro w1530 b1531 hg1532; have z1534 := hg1532.size
      refine qv 6 (.int .i64 0) F1529 rfl (rn_assign (F1529.get rfl)) fun _ F1536 => ?_; clear F1529
      refine wpList_nil ?_
      refine hK1509 _ _ ?_
      clear hK1509
      have F1537 := ((((((((((((((((((((((((F1536.nil.c F1536 24 rfl).c F1536 23 rfl).c F1536 144 rfl).c F1536 22 rfl).c F1536 109 rfl).c F1536 21 rfl).c F1536 20 rfl).c F1536 63 rfl).c F1536 62 rfl).c F1536 61 rfl).c F1536 60 rfl).c F1536 13 rfl).c F1536 59 rfl).c F1536 12 rfl).c F1536 11 rfl).c F1536 50 rfl).c F1536 10 rfl).c F1536 9 rfl).c F1536 29 rfl).c F1536 8 rfl).c F1536 3 rfl).c F1536 2 rfl).c F1536 1 rfl).c F1536 0 rfl)
      clear F1536
      refine wp_seq_k (fun K1538 hK1538 => ?_)
      refine wp_region_lit ?_
      refine qv 0 (.agg #[(.slice A1513 ((dmgS Q kk (x1359.set (((at0 % 18446744073709551616).toNat) % 128) ((x1359.getD (((at0 % 18446744073709551616).toNat) % 128) 0) ^^^ q))).sectors.length) c1514), (.slice B1515 ((dmgS Q kk (x1359.set (((at0 % 18446744073709551616).toNat) % 128) ((x1359.getD (((at0 % 18446744073709551616).toNat) % 128) 0) ^^^ q))).pending.length) e1516), (.int .i64 ((dmgS Q kk (x1359.set (((at0 % 18446744073709551616).toNat) % 128) ((x1359.getD (((at0 % 18446744073709551616).toNat) % 128) 0) ^^^ q))).left)), (.bool ((dmgS Q kk (x1359.set (((at0 % 18446744073709551616).toNat) % 128) ((x1359.getD (((at0 % 18446744073709551616).toNat) % 128) 0) ^^^ q))).stopped))]) F1537 rfl (rn_loadBlk (F1537.get rfl) b1531 Try.underlying25 rfl inf25) fun _ F1540 => ?_; clear F1537
      have d1541 := (hd1517.pres ((Pres.refl w1519).grownN hg1532 (fun h => by first | (simp only [Clip, ne_eq, not_true_eq_false, and_false, false_and] at h; done) | (have h2 := h.2; omega) | (rcases h.1 with (h | h) | h <;> first | (simp only [Clip, ne_eq, not_true_eq_false, and_false, false_and] at h; done) | omega | (simp only [Clip] at h; omega)) | (rcases h.1 with h | h <;> first | (simp only [Clip, ne_eq, not_true_eq_false, and_false, false_and] at h; done) | omega | (simp only [Clip] at h; omega)))))
      refine wpl_op (i := 1) rfl (o_call F1540 rfl rfl rfl rfl (rn_call (args1 (F1540.get rfl)) rfl (by kernel_rfl)) (open_conv (open_at (v := (.agg #[(.slice A1513 ((dmgS Q kk (x1359.set (((at0 % 18446744073709551616).toNat) % 128) ((x1359.getD (((at0 % 18446744073709551616).toNat) % 128) 0) ^^^ q))).sectors.length) c1514), (.slice B1515 ((dmgS Q kk (x1359.set (((at0 % 18446744073709551616).toNat) % 128) ((x1359.getD (((at0 % 18446744073709551616).toNat) % 128) 0) ^^^ q))).pending.length) e1516), (.int .i64 ((dmgS Q kk (x1359.set (((at0 % 18446744073709551616).toNat) % 128) ((x1359.getD (((at0 % 18446744073709551616).toNat) % 128) 0) ^^^ q))).left)), (.bool ((dmgS Q kk (x1359.set (((at0 % 18446744073709551616).toNat) % 128) ((x1359.getD (((at0 % 18446744073709551616).toNat) % 128) 0) ^^^ q))).stopped))])) (dmgS Q kk (x1359.set (((at0 % 18446744073709551616).toNat) % 128) ((x1359.getD (((at0 % 18446744073709551616).toNat) % 128) 0) ^^^ q))) _ d1541) hdo) ?_)
      rintro _ w1545 ⟨A1542, c1543, rfl, hb1544, hx1546⟩
      refine ⟨_, rfl, ?_⟩; intro a1547 F1548; clear F1540; have z1549 := hx1546.size
      obtain ⟨-, z1551, z1552⟩ := RBss.at hb1544
      have hf1550 : RBss (Clip (fun b => Fr S w b ∧ b ≠ g31 ∧ b ≠ g135 ∧ b ≠ g1242 ∧ b ≠ g1250) w1545) w1545 (.slice A1542 ((Q.take (ended kk Q)).length) c1543) (Q.take (ended kk Q)) := (RBss.clip hb1544).sub fun b h => by obtain ⟨h, hlt⟩ := h; have h : w1530.heap.size ≤ b := h; exact ⟨⟨.inr (by omega), by omega, by omega, by omega, by omega⟩, by omega⟩
      refine qv 2 (.tuple #[(.agg #[(.int .i64 (40 : Nat)), (.slice A1542 ((Q.take (ended kk Q)).length) c1543), (.int .i64 ((Q.take (ended kk Q)).length : Nat))]), (.int .i64 0)]) F1548 rfl (rn_move (F1548.get rfl)) fun _ F1554 => ?_; clear F1548
      refine qv 3 (.agg #[(.int .i64 (40 : Nat)), (.slice A1542 ((Q.take (ended kk Q)).length) c1543), (.int .i64 ((Q.take (ended kk Q)).length : Nat))]) F1554 rfl (rn_extract (F1554.get rfl) rfl) fun _ F1556 => ?_; clear F1554
      refine qv 4 (.int .i64 0) F1556 rfl (rn_extract (F1556.get rfl) rfl) fun _ F1558 => ?_; clear F1556
      refine wpl_op (i := 5) rfl (o_new (fun g => (.pointer (some ⟨g, 0, none⟩))) [(.int .i64 0), (.slice none 0 0), (.int .i64 0)] 29 F1558 rfl rfl rfl rfl (by kernel_rfl) ?_)
      intro g1559 w1560 a1565 F1566 z1563 z1564 b1561 hx1562; clear F1558
      refine wpl_op (i := 6) rfl (o_store (cells := [(.int .i64 (40 : Nat)), (.slice A1542 ((Q.take (ended kk Q)).length) c1543), (.int .i64 ((Q.take (ended kk Q)).length : Nat))]) F1566 rfl rfl rfl rfl (F1566.get rfl) (F1566.get rfl) b1561 inf29 rfl (by simp [Value.oneCell']) ?_)
      intro w1567 b1568 hg1569; have z1570 := hg1569.size
      refine qv 7 (.int .i64 0) F1566 rfl (rn_assign (F1566.get rfl)) fun _ F1572 => ?_; clear F1566
      refine wpList_nil ?_
      refine hK1538 _ _ ?_
      clear hK1538
      have F1573 := ((((((((((((((((((((((((((F1572.nil.c F1572 26 rfl).c F1572 25 rfl).c F1572 24 rfl).c F1572 23 rfl).c F1572 144 rfl).c F1572 22 rfl).c F1572 109 rfl).c F1572 21 rfl).c F1572 20 rfl).c F1572 63 rfl).c F1572 62 rfl).c F1572 61 rfl).c F1572 60 rfl).c F1572 13 rfl).c F1572 59 rfl).c F1572 12 rfl).c F1572 11 rfl).c F1572 50 rfl).c F1572 10 rfl).c F1572 9 rfl).c F1572 29 rfl).c F1572 8 rfl).c F1572 3 rfl).c F1572 2 rfl).c F1572 1 rfl).c F1572 0 rfl)
      clear F1572
      refine wp_seq_k (fun K1574 hK1574 => ?_)
      refine wp_region_lit ?_
      refine qv 0 (.int .i64 0) F1573 rfl (rn_assign rfl) fun _ F1576 => ?_; clear F1573
      refine wpList_nil ?_
      refine hK1574 _ _ ?_
      clear hK1574
      refine wp_seq_k (fun K1577 hK1577 => ?_)
      refine wp_block ?_
      have d1578 := (hf181.pres ((((((((((((((((Pres.refl w171).ext hx1226).ext hx1245).ext hx1253).grownN hg1260 (fun h => by first | (simp only [Clip, ne_eq, not_true_eq_false, and_false, false_and] at h; done) | (have h2 := h.2; omega) | (rcases h.1 with (h | h) | h <;> first | (simp only [Clip, ne_eq, not_true_eq_false, and_false, false_and] at h; done) | omega | (simp only [Clip] at h; omega)) | (rcases h.1 with h | h <;> first | (simp only [Clip, ne_eq, not_true_eq_false, and_false, false_and] at h; done) | omega | (simp only [Clip] at h; omega)))).grownN hg1265 (fun h => by first | (simp only [Clip, ne_eq, not_true_eq_false, and_false, false_and] at h; done) | (have h2 := h.2; omega) | (rcases h.1 with (h | h) | h <;> first | (simp only [Clip, ne_eq, not_true_eq_false, and_false, false_and] at h; done) | omega | (simp only [Clip] at h; omega)) | (rcases h.1 with h | h <;> first | (simp only [Clip, ne_eq, not_true_eq_false, and_false, false_and] at h; done) | omega | (simp only [Clip] at h; omega)))).ext hx1394).grownN hg1440 (fun h => by first | (simp only [Clip, ne_eq, not_true_eq_false, and_false, false_and] at h; done) | (have h2 := h.2; omega) | (rcases h.1 with (h | h) | h <;> first | (simp only [Clip, ne_eq, not_true_eq_false, and_false, false_and] at h; done) | omega | (simp only [Clip] at h; omega)) | (rcases h.1 with h | h <;> first | (simp only [Clip, ne_eq, not_true_eq_false, and_false, false_and] at h; done) | omega | (simp only [Clip] at h; omega)))).grownN hg1470 (fun h => by first | (simp only [Clip, ne_eq, not_true_eq_false, and_false, false_and] at h; done) | (have h2 := h.2; omega) | (rcases h.1 with (h | h) | h <;> first | (simp only [Clip, ne_eq, not_true_eq_false, and_false, false_and] at h; done) | omega | (simp only [Clip] at h; omega)) | (rcases h.1 with h | h <;> first | (simp only [Clip, ne_eq, not_true_eq_false, and_false, false_and] at h; done) | omega | (simp only [Clip] at h; omega)))).ext hx1491).grownN hg1503 (fun h => by first | (simp only [Clip, ne_eq, not_true_eq_false, and_false, false_and] at h; done) | (have h2 := h.2; omega) | (rcases h.1 with (h | h) | h <;> first | (simp only [Clip, ne_eq, not_true_eq_false, and_false, false_and] at h; done) | omega | (simp only [Clip] at h; omega)) | (rcases h.1 with h | h <;> first | (simp only [Clip, ne_eq, not_true_eq_false, and_false, false_and] at h; done) | omega | (simp only [Clip] at h; omega)))).ext hx1520).grownN hg1532 (fun h => by first | (simp only [Clip, ne_eq, not_true_eq_false, and_false, false_and] at h; done) | (have h2 := h.2; omega) | (rcases h.1 with (h | h) | h <;> first | (simp only [Clip, ne_eq, not_true_eq_false, and_false, false_and] at h; done) | omega | (simp only [Clip] at h; omega)) | (rcases h.1 with h | h <;> first | (simp only [Clip, ne_eq, not_true_eq_false, and_false, false_and] at h; done) | omega | (simp only [Clip] at h; omega)))).ext hx1546).ext hx1562).grownN hg1569 (fun h => by first | (simp only [Clip, ne_eq, not_true_eq_false, and_false, false_and] at h; done) | (have h2 := h.2; omega) | (rcases h.1 with (h | h) | h <;> first | (simp only [Clip, ne_eq, not_true_eq_false, and_false, false_and] at h; done) | omega | (simp only [Clip] at h; omega)) | (rcases h.1 with h | h <;> first | (simp only [Clip, ne_eq, not_true_eq_false, and_false, false_and] at h; done) | omega | (simp only [Clip] at h; omega)))))
      have d1579 := (hf182.pres ((((((((((((((((Pres.refl w171).ext hx1226).ext hx1245).ext hx1253).grownN hg1260 (fun h => by first | (simp only [Clip, ne_eq, not_true_eq_false, and_false, false_and] at h; done) | (have h2 := h.2; omega) | (rcases h.1 with (h | h) | h <;> first | (simp only [Clip, ne_eq, not_true_eq_false, and_false, false_and] at h; done) | omega | (simp only [Clip] at h; omega)) | (rcases h.1 with h | h <;> first | (simp only [Clip, ne_eq, not_true_eq_false, and_false, false_and] at h; done) | omega | (simp only [Clip] at h; omega)))).grownN hg1265 (fun h => by first | (simp only [Clip, ne_eq, not_true_eq_false, and_false, false_and] at h; done) | (have h2 := h.2; omega) | (rcases h.1 with (h | h) | h <;> first | (simp only [Clip, ne_eq, not_true_eq_false, and_false, false_and] at h; done) | omega | (simp only [Clip] at h; omega)) | (rcases h.1 with h | h <;> first | (simp only [Clip, ne_eq, not_true_eq_false, and_false, false_and] at h; done) | omega | (simp only [Clip] at h; omega)))).ext hx1394).grownN hg1440 (fun h => by first | (simp only [Clip, ne_eq, not_true_eq_false, and_false, false_and] at h; done) | (have h2 := h.2; omega) | (rcases h.1 with (h | h) | h <;> first | (simp only [Clip, ne_eq, not_true_eq_false, and_false, false_and] at h; done) | omega | (simp only [Clip] at h; omega)) | (rcases h.1 with h | h <;> first | (simp only [Clip, ne_eq, not_true_eq_false, and_false, false_and] at h; done) | omega | (simp only [Clip] at h; omega)))).grownN hg1470 (fun h => by first | (simp only [Clip, ne_eq, not_true_eq_false, and_false, false_and] at h; done) | (have h2 := h.2; omega) | (rcases h.1 with (h | h) | h <;> first | (simp only [Clip, ne_eq, not_true_eq_false, and_false, false_and] at h; done) | omega | (simp only [Clip] at h; omega)) | (rcases h.1 with h | h <;> first | (simp only [Clip, ne_eq, not_true_eq_false, and_false, false_and] at h; done) | omega | (simp only [Clip] at h; omega)))).ext hx1491).grownN hg1503 (fun h => by first | (simp only [Clip, ne_eq, not_true_eq_false, and_false, false_and] at h; done) | (have h2 := h.2; omega) | (rcases h.1 with (h | h) | h <;> first | (simp only [Clip, ne_eq, not_true_eq_false, and_false, false_and] at h; done) | omega | (simp only [Clip] at h; omega)) | (rcases h.1 with h | h <;> first | (simp only [Clip, ne_eq, not_true_eq_false, and_false, false_and] at h; done) | omega | (simp only [Clip] at h; omega)))).ext hx1520).grownN hg1532 (fun h => by first | (simp only [Clip, ne_eq, not_true_eq_false, and_false, false_and] at h; done) | (have h2 := h.2; omega) | (rcases h.1 with (h | h) | h <;> first | (simp only [Clip, ne_eq, not_true_eq_false, and_false, false_and] at h; done) | omega | (simp only [Clip] at h; omega)) | (rcases h.1 with h | h <;> first | (simp only [Clip, ne_eq, not_true_eq_false, and_false, false_and] at h; done) | omega | (simp only [Clip] at h; omega)))).ext hx1546).ext hx1562).grownN hg1569 (fun h => by first | (simp only [Clip, ne_eq, not_true_eq_false, and_false, false_and] at h; done) | (have h2 := h.2; omega) | (rcases h.1 with (h | h) | h <;> first | (simp only [Clip, ne_eq, not_true_eq_false, and_false, false_and] at h; done) | omega | (simp only [Clip] at h; omega)) | (rcases h.1 with h | h <;> first | (simp only [Clip, ne_eq, not_true_eq_false, and_false, false_and] at h; done) | omega | (simp only [Clip] at h; omega)))))
      have d1580 := (hf183.pres ((((((((((((((((Pres.refl w171).ext hx1226).ext hx1245).ext hx1253).grownN hg1260 (fun h => by first | (simp only [Clip, ne_eq, not_true_eq_false, and_false, false_and] at h; done) | (have h2 := h.2; omega) | (rcases h.1 with (h | h) | h <;> first | (simp only [Clip, ne_eq, not_true_eq_false, and_false, false_and] at h; done) | omega | (simp only [Clip] at h; omega)) | (rcases h.1 with h | h <;> first | (simp only [Clip, ne_eq, not_true_eq_false, and_false, false_and] at h; done) | omega | (simp only [Clip] at h; omega)))).grownN hg1265 (fun h => by first | (simp only [Clip, ne_eq, not_true_eq_false, and_false, false_and] at h; done) | (have h2 := h.2; omega) | (rcases h.1 with (h | h) | h <;> first | (simp only [Clip, ne_eq, not_true_eq_false, and_false, false_and] at h; done) | omega | (simp only [Clip] at h; omega)) | (rcases h.1 with h | h <;> first | (simp only [Clip, ne_eq, not_true_eq_false, and_false, false_and] at h; done) | omega | (simp only [Clip] at h; omega)))).ext hx1394).grownN hg1440 (fun h => by first | (simp only [Clip, ne_eq, not_true_eq_false, and_false, false_and] at h; done) | (have h2 := h.2; omega) | (rcases h.1 with (h | h) | h <;> first | (simp only [Clip, ne_eq, not_true_eq_false, and_false, false_and] at h; done) | omega | (simp only [Clip] at h; omega)) | (rcases h.1 with h | h <;> first | (simp only [Clip, ne_eq, not_true_eq_false, and_false, false_and] at h; done) | omega | (simp only [Clip] at h; omega)))).grownN hg1470 (fun h => by first | (simp only [Clip, ne_eq, not_true_eq_false, and_false, false_and] at h; done) | (have h2 := h.2; omega) | (rcases h.1 with (h | h) | h <;> first | (simp only [Clip, ne_eq, not_true_eq_false, and_false, false_and] at h; done) | omega | (simp only [Clip] at h; omega)) | (rcases h.1 with h | h <;> first | (simp only [Clip, ne_eq, not_true_eq_false, and_false, false_and] at h; done) | omega | (simp only [Clip] at h; omega)))).ext hx1491).grownN hg1503 (fun h => by first | (simp only [Clip, ne_eq, not_true_eq_false, and_false, false_and] at h; done) | (have h2 := h.2; omega) | (rcases h.1 with (h | h) | h <;> first | (simp only [Clip, ne_eq, not_true_eq_false, and_false, false_and] at h; done) | omega | (simp only [Clip] at h; omega)) | (rcases h.1 with h | h <;> first | (simp only [Clip, ne_eq, not_true_eq_false, and_false, false_and] at h; done) | omega | (simp only [Clip] at h; omega)))).ext hx1520).grownN hg1532 (fun h => by first | (simp only [Clip, ne_eq, not_true_eq_false, and_false, false_and] at h; done) | (have h2 := h.2; omega) | (rcases h.1 with (h | h) | h <;> first | (simp only [Clip, ne_eq, not_true_eq_false, and_false, false_and] at h; done) | omega | (simp only [Clip] at h; omega)) | (rcases h.1 with h | h <;> first | (simp only [Clip, ne_eq, not_true_eq_false, and_false, false_and] at h; done) | omega | (simp only [Clip] at h; omega)))).ext hx1546).ext hx1562).grownN hg1569 (fun h => by first | (simp only [Clip, ne_eq, not_true_eq_false, and_false, false_and] at h; done) | (have h2 := h.2; omega) | (rcases h.1 with (h | h) | h <;> first | (simp only [Clip, ne_eq, not_true_eq_false, and_false, false_and] at h; done) | omega | (simp only [Clip] at h; omega)) | (rcases h.1 with h | h <;> first | (simp only [Clip, ne_eq, not_true_eq_false, and_false, false_and] at h; done) | omega | (simp only [Clip] at h; omega)))))
      have d1581 := (hf1230.pres (((((((((((((((Pres.refl w1225).ext hx1245).ext hx1253).grownN hg1260 (fun h => by first | (simp only [Clip, ne_eq, not_true_eq_false, and_false, false_and] at h; done) | (have h2 := h.2; omega) | (rcases h.1 with (h | h) | h <;> first | (simp only [Clip, ne_eq, not_true_eq_false, and_false, false_and] at h; done) | omega | (simp only [Clip] at h; omega)) | (rcases h.1 with h | h <;> first | (simp only [Clip, ne_eq, not_true_eq_false, and_false, false_and] at h; done) | omega | (simp only [Clip] at h; omega)))).grownN hg1265 (fun h => by first | (simp only [Clip, ne_eq, not_true_eq_false, and_false, false_and] at h; done) | (have h2 := h.2; omega) | (rcases h.1 with (h | h) | h <;> first | (simp only [Clip, ne_eq, not_true_eq_false, and_false, false_and] at h; done) | omega | (simp only [Clip] at h; omega)) | (rcases h.1 with h | h <;> first | (simp only [Clip, ne_eq, not_true_eq_false, and_false, false_and] at h; done) | omega | (simp only [Clip] at h; omega)))).ext hx1394).grownN hg1440 (fun h => by first | (simp only [Clip, ne_eq, not_true_eq_false, and_false, false_and] at h; done) | (have h2 := h.2; omega) | (rcases h.1 with (h | h) | h <;> first | (simp only [Clip, ne_eq, not_true_eq_false, and_false, false_and] at h; done) | omega | (simp only [Clip] at h; omega)) | (rcases h.1 with h | h <;> first | (simp only [Clip, ne_eq, not_true_eq_false, and_false, false_and] at h; done) | omega | (simp only [Clip] at h; omega)))).grownN hg1470 (fun h => by first | (simp only [Clip, ne_eq, not_true_eq_false, and_false, false_and] at h; done) | (have h2 := h.2; omega) | (rcases h.1 with (h | h) | h <;> first | (simp only [Clip, ne_eq, not_true_eq_false, and_false, false_and] at h; done) | omega | (simp only [Clip] at h; omega)) | (rcases h.1 with h | h <;> first | (simp only [Clip, ne_eq, not_true_eq_false, and_false, false_and] at h; done) | omega | (simp only [Clip] at h; omega)))).ext hx1491).grownN hg1503 (fun h => by first | (simp only [Clip, ne_eq, not_true_eq_false, and_false, false_and] at h; done) | (have h2 := h.2; omega) | (rcases h.1 with (h | h) | h <;> first | (simp only [Clip, ne_eq, not_true_eq_false, and_false, false_and] at h; done) | omega | (simp only [Clip] at h; omega)) | (rcases h.1 with h | h <;> first | (simp only [Clip, ne_eq, not_true_eq_false, and_false, false_and] at h; done) | omega | (simp only [Clip] at h; omega)))).ext hx1520).grownN hg1532 (fun h => by first | (simp only [Clip, ne_eq, not_true_eq_false, and_false, false_and] at h; done) | (have h2 := h.2; omega) | (rcases h.1 with (h | h) | h <;> first | (simp only [Clip, ne_eq, not_true_eq_false, and_false, false_and] at h; done) | omega | (simp only [Clip] at h; omega)) | (rcases h.1 with h | h <;> first | (simp only [Clip, ne_eq, not_true_eq_false, and_false, false_and] at h; done) | omega | (simp only [Clip] at h; omega)))).ext hx1546).ext hx1562).grownN hg1569 (fun h => by first | (simp only [Clip, ne_eq, not_true_eq_false, and_false, false_and] at h; done) | (have h2 := h.2; omega) | (rcases h.1 with (h | h) | h <;> first | (simp only [Clip, ne_eq, not_true_eq_false, and_false, false_and] at h; done) | omega | (simp only [Clip] at h; omega)) | (rcases h.1 with h | h <;> first | (simp only [Clip, ne_eq, not_true_eq_false, and_false, false_and] at h; done) | omega | (simp only [Clip] at h; omega)))))
      have d1582 := (hd1233.pres (((((((((((((((Pres.refl w1225).ext hx1245).ext hx1253).grownN hg1260 (fun h => by first | (simp only [Clip, ne_eq, not_true_eq_false, and_false, false_and] at h; done) | (have h2 := h.2; omega) | (rcases h.1 with (h | h) | h <;> first | (simp only [Clip, ne_eq, not_true_eq_false, and_false, false_and] at h; done) | omega | (simp only [Clip] at h; omega)) | (rcases h.1 with h | h <;> first | (simp only [Clip, ne_eq, not_true_eq_false, and_false, false_and] at h; done) | omega | (simp only [Clip] at h; omega)))).grownN hg1265 (fun h => by first | (simp only [Clip, ne_eq, not_true_eq_false, and_false, false_and] at h; done) | (have h2 := h.2; omega) | (rcases h.1 with (h | h) | h <;> first | (simp only [Clip, ne_eq, not_true_eq_false, and_false, false_and] at h; done) | omega | (simp only [Clip] at h; omega)) | (rcases h.1 with h | h <;> first | (simp only [Clip, ne_eq, not_true_eq_false, and_false, false_and] at h; done) | omega | (simp only [Clip] at h; omega)))).ext hx1394).grownN hg1440 (fun h => by first | (simp only [Clip, ne_eq, not_true_eq_false, and_false, false_and] at h; done) | (have h2 := h.2; omega) | (rcases h.1 with (h | h) | h <;> first | (simp only [Clip, ne_eq, not_true_eq_false, and_false, false_and] at h; done) | omega | (simp only [Clip] at h; omega)) | (rcases h.1 with h | h <;> first | (simp only [Clip, ne_eq, not_true_eq_false, and_false, false_and] at h; done) | omega | (simp only [Clip] at h; omega)))).grownN hg1470 (fun h => by first | (simp only [Clip, ne_eq, not_true_eq_false, and_false, false_and] at h; done) | (have h2 := h.2; omega) | (rcases h.1 with (h | h) | h <;> first | (simp only [Clip, ne_eq, not_true_eq_false, and_false, false_and] at h; done) | omega | (simp only [Clip] at h; omega)) | (rcases h.1 with h | h <;> first | (simp only [Clip, ne_eq, not_true_eq_false, and_false, false_and] at h; done) | omega | (simp only [Clip] at h; omega)))).ext hx1491).grownN hg1503 (fun h => by first | (simp only [Clip, ne_eq, not_true_eq_false, and_false, false_and] at h; done) | (have h2 := h.2; omega) | (rcases h.1 with (h | h) | h <;> first | (simp only [Clip, ne_eq, not_true_eq_false, and_false, false_and] at h; done) | omega | (simp only [Clip] at h; omega)) | (rcases h.1 with h | h <;> first | (simp only [Clip, ne_eq, not_true_eq_false, and_false, false_and] at h; done) | omega | (simp only [Clip] at h; omega)))).ext hx1520).grownN hg1532 (fun h => by first | (simp only [Clip, ne_eq, not_true_eq_false, and_false, false_and] at h; done) | (have h2 := h.2; omega) | (rcases h.1 with (h | h) | h <;> first | (simp only [Clip, ne_eq, not_true_eq_false, and_false, false_and] at h; done) | omega | (simp only [Clip] at h; omega)) | (rcases h.1 with h | h <;> first | (simp only [Clip, ne_eq, not_true_eq_false, and_false, false_and] at h; done) | omega | (simp only [Clip] at h; omega)))).ext hx1546).ext hx1562).grownN hg1569 (fun h => by first | (simp only [Clip, ne_eq, not_true_eq_false, and_false, false_and] at h; done) | (have h2 := h.2; omega) | (rcases h.1 with (h | h) | h <;> first | (simp only [Clip, ne_eq, not_true_eq_false, and_false, false_and] at h; done) | omega | (simp only [Clip] at h; omega)) | (rcases h.1 with h | h <;> first | (simp only [Clip, ne_eq, not_true_eq_false, and_false, false_and] at h; done) | omega | (simp only [Clip] at h; omega)))))
      have d1583 := ((RDk.len hd1233).1.pres (((((((((((((((Pres.refl w1225).ext hx1245).ext hx1253).grownN hg1260 (fun h => by first | (simp only [Clip, ne_eq, not_true_eq_false, and_false, false_and] at h; done) | (have h2 := h.2; omega) | (rcases h.1 with (h | h) | h <;> first | (simp only [Clip, ne_eq, not_true_eq_false, and_false, false_and] at h; done) | omega | (simp only [Clip] at h; omega)) | (rcases h.1 with h | h <;> first | (simp only [Clip, ne_eq, not_true_eq_false, and_false, false_and] at h; done) | omega | (simp only [Clip] at h; omega)))).grownN hg1265 (fun h => by first | (simp only [Clip, ne_eq, not_true_eq_false, and_false, false_and] at h; done) | (have h2 := h.2; omega) | (rcases h.1 with (h | h) | h <;> first | (simp only [Clip, ne_eq, not_true_eq_false, and_false, false_and] at h; done) | omega | (simp only [Clip] at h; omega)) | (rcases h.1 with h | h <;> first | (simp only [Clip, ne_eq, not_true_eq_false, and_false, false_and] at h; done) | omega | (simp only [Clip] at h; omega)))).ext hx1394).grownN hg1440 (fun h => by first | (simp only [Clip, ne_eq, not_true_eq_false, and_false, false_and] at h; done) | (have h2 := h.2; omega) | (rcases h.1 with (h | h) | h <;> first | (simp only [Clip, ne_eq, not_true_eq_false, and_false, false_and] at h; done) | omega | (simp only [Clip] at h; omega)) | (rcases h.1 with h | h <;> first | (simp only [Clip, ne_eq, not_true_eq_false, and_false, false_and] at h; done) | omega | (simp only [Clip] at h; omega)))).grownN hg1470 (fun h => by first | (simp only [Clip, ne_eq, not_true_eq_false, and_false, false_and] at h; done) | (have h2 := h.2; omega) | (rcases h.1 with (h | h) | h <;> first | (simp only [Clip, ne_eq, not_true_eq_false, and_false, false_and] at h; done) | omega | (simp only [Clip] at h; omega)) | (rcases h.1 with h | h <;> first | (simp only [Clip, ne_eq, not_true_eq_false, and_false, false_and] at h; done) | omega | (simp only [Clip] at h; omega)))).ext hx1491).grownN hg1503 (fun h => by first | (simp only [Clip, ne_eq, not_true_eq_false, and_false, false_and] at h; done) | (have h2 := h.2; omega) | (rcases h.1 with (h | h) | h <;> first | (simp only [Clip, ne_eq, not_true_eq_false, and_false, false_and] at h; done) | omega | (simp only [Clip] at h; omega)) | (rcases h.1 with h | h <;> first | (simp only [Clip, ne_eq, not_true_eq_false, and_false, false_and] at h; done) | omega | (simp only [Clip] at h; omega)))).ext hx1520).grownN hg1532 (fun h => by first | (simp only [Clip, ne_eq, not_true_eq_false, and_false, false_and] at h; done) | (have h2 := h.2; omega) | (rcases h.1 with (h | h) | h <;> first | (simp only [Clip, ne_eq, not_true_eq_false, and_false, false_and] at h; done) | omega | (simp only [Clip] at h; omega)) | (rcases h.1 with h | h <;> first | (simp only [Clip, ne_eq, not_true_eq_false, and_false, false_and] at h; done) | omega | (simp only [Clip] at h; omega)))).ext hx1546).ext hx1562).grownN hg1569 (fun h => by first | (simp only [Clip, ne_eq, not_true_eq_false, and_false, false_and] at h; done) | (have h2 := h.2; omega) | (rcases h.1 with (h | h) | h <;> first | (simp only [Clip, ne_eq, not_true_eq_false, and_false, false_and] at h; done) | omega | (simp only [Clip] at h; omega)) | (rcases h.1 with h | h <;> first | (simp only [Clip, ne_eq, not_true_eq_false, and_false, false_and] at h; done) | omega | (simp only [Clip] at h; omega)))))
      have d1584 := (hd1488.pres (((((((Pres.refl w1490).grownN hg1503 (fun h => by first | (simp only [Clip, ne_eq, not_true_eq_false, and_false, false_and] at h; done) | (have h2 := h.2; omega) | (rcases h.1 with (h | h) | h <;> first | (simp only [Clip, ne_eq, not_true_eq_false, and_false, false_and] at h; done) | omega | (simp only [Clip] at h; omega)) | (rcases h.1 with h | h <;> first | (simp only [Clip, ne_eq, not_true_eq_false, and_false, false_and] at h; done) | omega | (simp only [Clip] at h; omega)))).ext hx1520).grownN hg1532 (fun h => by first | (simp only [Clip, ne_eq, not_true_eq_false, and_false, false_and] at h; done) | (have h2 := h.2; omega) | (rcases h.1 with (h | h) | h <;> first | (simp only [Clip, ne_eq, not_true_eq_false, and_false, false_and] at h; done) | omega | (simp only [Clip] at h; omega)) | (rcases h.1 with h | h <;> first | (simp only [Clip, ne_eq, not_true_eq_false, and_false, false_and] at h; done) | omega | (simp only [Clip] at h; omega)))).ext hx1546).ext hx1562).grownN hg1569 (fun h => by first | (simp only [Clip, ne_eq, not_true_eq_false, and_false, false_and] at h; done) | (have h2 := h.2; omega) | (rcases h.1 with (h | h) | h <;> first | (simp only [Clip, ne_eq, not_true_eq_false, and_false, false_and] at h; done) | omega | (simp only [Clip] at h; omega)) | (rcases h.1 with h | h <;> first | (simp only [Clip, ne_eq, not_true_eq_false, and_false, false_and] at h; done) | omega | (simp only [Clip] at h; omega)))))
      have d1585 := (hd1517.pres (((((Pres.refl w1519).grownN hg1532 (fun h => by first | (simp only [Clip, ne_eq, not_true_eq_false, and_false, false_and] at h; done) | (have h2 := h.2; omega) | (rcases h.1 with (h | h) | h <;> first | (simp only [Clip, ne_eq, not_true_eq_false, and_false, false_and] at h; done) | omega | (simp only [Clip] at h; omega)) | (rcases h.1 with h | h <;> first | (simp only [Clip, ne_eq, not_true_eq_false, and_false, false_and] at h; done) | omega | (simp only [Clip] at h; omega)))).ext hx1546).ext hx1562).grownN hg1569 (fun h => by first | (simp only [Clip, ne_eq, not_true_eq_false, and_false, false_and] at h; done) | (have h2 := h.2; omega) | (rcases h.1 with (h | h) | h <;> first | (simp only [Clip, ne_eq, not_true_eq_false, and_false, false_and] at h; done) | omega | (simp only [Clip] at h; omega)) | (rcases h.1 with h | h <;> first | (simp only [Clip, ne_eq, not_true_eq_false, and_false, false_and] at h; done) | omega | (simp only [Clip] at h; omega)))))
      have d1586 := (hf1550.pres (((Pres.refl w1545).ext hx1562).grownN hg1569 (fun h => by first | (simp only [Clip, ne_eq, not_true_eq_false, and_false, false_and] at h; done) | (have h2 := h.2; omega) | (rcases h.1 with (h | h) | h <;> first | (simp only [Clip, ne_eq, not_true_eq_false, and_false, false_and] at h; done) | omega | (simp only [Clip] at h; omega)) | (rcases h.1 with h | h <;> first | (simp only [Clip, ne_eq, not_true_eq_false, and_false, false_and] at h; done) | omega | (simp only [Clip] at h; omega)))))
      have b1587 := (((((((((((((((b178.ext hx1226).ext hx1245).ext hx1253).grownN hg1260 (by omega)).grownN hg1265 (by omega)).ext hx1394).grownN hg1440 (by omega)).grownN hg1470 (by omega)).ext hx1491).grownN hg1503 (by omega)).ext hx1520).grownN hg1532 (by omega)).ext hx1546).ext hx1562).grownN hg1569 (by omega))
      have b1588 := ((((((((((b1341.ext hx1394).grownN hg1440 (by omega)).grownN hg1470 (by omega)).ext hx1491).grownN hg1503 (by omega)).ext hx1520).grownN hg1532 (by omega)).ext hx1546).ext hx1562).grownN hg1569 (by omega))
      have b1589 := (((((((((((b1259.grownN hg1265 (by omega)).ext hx1394).grownN hg1440 (by omega)).grownN hg1470 (by omega)).ext hx1491).grownN hg1503 (by omega)).ext hx1520).grownN hg1532 (by omega)).ext hx1546).ext hx1562).grownN hg1569 (by omega))
      have b1590 := (((b1531.ext hx1546).ext hx1562).grownN hg1569 (by omega))
      have r1591 := (own_grownT (own_ext (own_ext (own_grownT (own_ext (own_grownT (own_ext (own_grownB r1446 hg1470 hnb1448) hx1491) b1504 hg1503 (by decide)) hx1520) b1533 hg1532 (by decide)) hx1546) hx1562) b1561 hg1569 (by decide))
      refine wp_loop (fun a' W => ∃ (j : Nat), Sl 211 [(0, (.slice A R.length c)), (1, (.int .i64 sc)), (2, (.int .i64 at0)), (3, (.int .u8 (q.toNat : Nat))), (8, (.bool false)), (29, (.bool false)), (9, (.pointer (some ⟨g31, 0, none⟩))), (10, (.int .i64 0)), (50, (.bool (decide (((q.toNat : Nat) : Int) = (0 : Int))))), (11, (.pointer (some ⟨g135, 0, none⟩))), (12, (.int .i64 0)), (59, (.bool false)), (13, (.slice Ae ne ce)), (60, (.slice A R.length c)), (61, (.int .i64 (R.length : Nat))), (62, (.int .i64 (k : Nat))), (63, (.bool (decide (((k : Nat) : Int) < ((R.length : Nat) : Int))))), (20, (.pointer (some ⟨g1250, 0, none⟩))), (21, (.int .i64 0)), (109, (.bool (decide (((ne : Nat) : Int) = (0 : Int))))), (22, (.int .i64 (kk : Nat))), (144, (.bool (decide (((x1359.length : Nat) : Int) ≠ (128 : Int))))), (23, (.slice (some ⟨gS, 0, none⟩) (0 + x1359.length) c1426)), (24, (.int .i64 0)), (25, (.pointer (some ⟨g1559, 0, none⟩))), (26, (.int .i64 0)), (27, (.int .i64 (j : Nat)))] a' ∧ j ≤ ne ∧ (∀ i, i < j → usedL (Q.take (i + 1)) ≤ kk) ∧ Ext w W ∧ Blk W g31 25 [(.slice A14 n40.sectors.length c15), (.slice B16 n40.pending.length e17), (.int .i64 n40.left), (.bool n40.stopped)] ∧ Blk W g135 29 [(.int .i64 (40 : Nat)), (.slice Aq Q.length cq), (.int .i64 0)] ∧ Blk W g1242 29 [(.int .i64 (40 : Nat)), (.slice A1216 Q.length c1217), (.int .i64 (Q.length : Nat))] ∧ Blk W g1250 25 [(.slice A1513 ((dmgS Q kk (x1359.set (((at0 % 18446744073709551616).toNat) % 128) ((x1359.getD (((at0 % 18446744073709551616).toNat) % 128) 0) ^^^ q))).sectors.length) c1514), (.slice B1515 ((dmgS Q kk (x1359.set (((at0 % 18446744073709551616).toNat) % 128) ((x1359.getD (((at0 % 18446744073709551616).toNat) % 128) 0) ^^^ q))).pending.length) e1516), (.int .i64 ((dmgS Q kk (x1359.set (((at0 % 18446744073709551616).toNat) % 128) ((x1359.getD (((at0 % 18446744073709551616).toNat) % 128) 0) ^^^ q))).left)), (.bool ((dmgS Q kk (x1359.set (((at0 % 18446744073709551616).toNat) % 128) ((x1359.getD (((at0 % 18446744073709551616).toNat) % 128) 0) ^^^ q))).stopped))] ∧ Blk W g1559 29 [(.int .i64 (40 : Nat)), (.slice A1542 ((Q.take (ended kk Q)).length) c1543), (.int .i64 ((Q.take (ended kk Q)).length : Nat))] ∧ W.ownsRow w143.heap.size 3 1 (.slice Ae ne ce) ne (intVals E) ∧ RDk (Clip (Fr (fun _ => False) w6) w20) W (.agg #[(.slice A14 n40.sectors.length c15), (.slice B16 n40.pending.length e17), (.int .i64 n40.left), (.bool n40.stopped)]) n40 ∧ RBss (Clip (fun b => Fr S w b ∧ b ≠ g31) w121) W (.slice A118 0 c119) (@List.nil (List UInt8)) ∧ RBss (Clip (fun b => Fr S w b ∧ b ≠ g31 ∧ b ≠ g135 ∧ some b ≠ (Value.slice Ae ne ce).ownBlock) w171) W (.slice Aq Q.length cq) Q ∧ RBss (Clip (fun b => Fr S w b ∧ b ≠ g31 ∧ b ≠ g135) w1225) W (.slice A1216 Q.length c1217) Q ∧ RDk (Clip (fun b => Fr S w b ∧ b ≠ g31 ∧ b ≠ g135) w1225) W (.agg #[(.slice A1221 ((dmgD Q).sectors.length) c1222), (.slice B1223 ((dmgD Q).pending.length) e1224), (.int .i64 ((dmgD Q).left)), (.bool ((dmgD Q).stopped))]) (dmgD Q) ∧ RBss (Clip (fun b => Fr S w b ∧ b ≠ g31 ∧ b ≠ g135) w1225) W (.slice A1221 ((dmgD Q).sectors.length) c1222) ((dmgD Q).sectors) ∧ RDk (Clip (Fr (fun b => (Clip (fun b => Fr S w b ∧ b ≠ g31 ∧ b ≠ g135) w1225) b ∨ (fun b => g1391 ≤ b) b) w1468) w1490) W (.agg #[(.slice A1484 ((dmgW Q kk (x1359.set (((at0 % 18446744073709551616).toNat) % 128) ((x1359.getD (((at0 % 18446744073709551616).toNat) % 128) 0) ^^^ q))).sectors.length) c1485), (.slice B1486 ((dmgW Q kk (x1359.set (((at0 % 18446744073709551616).toNat) % 128) ((x1359.getD (((at0 % 18446744073709551616).toNat) % 128) 0) ^^^ q))).pending.length) e1487), (.int .i64 ((dmgW Q kk (x1359.set (((at0 % 18446744073709551616).toNat) % 128) ((x1359.getD (((at0 % 18446744073709551616).toNat) % 128) 0) ^^^ q))).left)), (.bool ((dmgW Q kk (x1359.set (((at0 % 18446744073709551616).toNat) % 128) ((x1359.getD (((at0 % 18446744073709551616).toNat) % 128) 0) ^^^ q))).stopped))]) (dmgW Q kk (x1359.set (((at0 % 18446744073709551616).toNat) % 128) ((x1359.getD (((at0 % 18446744073709551616).toNat) % 128) 0) ^^^ q))) ∧ RDk (Clip (Fr (Clip (Fr (fun b => (Clip (fun b => Fr S w b ∧ b ≠ g31 ∧ b ≠ g135) w1225) b ∨ (fun b => g1391 ≤ b) b) w1468) w1490) w1501) w1519) W (.agg #[(.slice A1513 ((dmgS Q kk (x1359.set (((at0 % 18446744073709551616).toNat) % 128) ((x1359.getD (((at0 % 18446744073709551616).toNat) % 128) 0) ^^^ q))).sectors.length) c1514), (.slice B1515 ((dmgS Q kk (x1359.set (((at0 % 18446744073709551616).toNat) % 128) ((x1359.getD (((at0 % 18446744073709551616).toNat) % 128) 0) ^^^ q))).pending.length) e1516), (.int .i64 ((dmgS Q kk (x1359.set (((at0 % 18446744073709551616).toNat) % 128) ((x1359.getD (((at0 % 18446744073709551616).toNat) % 128) 0) ^^^ q))).left)), (.bool ((dmgS Q kk (x1359.set (((at0 % 18446744073709551616).toNat) % 128) ((x1359.getD (((at0 % 18446744073709551616).toNat) % 128) 0) ^^^ q))).stopped))]) (dmgS Q kk (x1359.set (((at0 % 18446744073709551616).toNat) % 128) ((x1359.getD (((at0 % 18446744073709551616).toNat) % 128) 0) ^^^ q))) ∧ RBss (Clip (fun b => Fr S w b ∧ b ≠ g31 ∧ b ≠ g135 ∧ b ≠ g1242 ∧ b ≠ g1250) w1545) W (.slice A1542 ((Q.take (ended kk Q)).length) c1543) (Q.take (ended kk Q)) ∧ w143.heap.size ≤ W.heap.size ∧ w1567.heap.size ≤ W.heap.size) (fun a' _ => ne - (intOf (a'.eval (.tmp 27))).toNat) ⟨0, (((((((((((((((((((((((((((F1576.nil.cons (q_get F1576 (t := 27) rfl (by first | rfl | (congr 1; omega) | (congr 1; done)))).cons (q_get F1576 (t := 26) rfl rfl)).cons (q_get F1576 (t := 25) rfl rfl)).cons (q_get F1576 (t := 24) rfl rfl)).cons (q_get F1576 (t := 23) rfl rfl)).cons (q_get F1576 (t := 144) rfl rfl)).cons (q_get F1576 (t := 22) rfl rfl)).cons (q_get F1576 (t := 109) rfl rfl)).cons (q_get F1576 (t := 21) rfl rfl)).cons (q_get F1576 (t := 20) rfl rfl)).cons (q_get F1576 (t := 63) rfl rfl)).cons (q_get F1576 (t := 62) rfl rfl)).cons (q_get F1576 (t := 61) rfl rfl)).cons (q_get F1576 (t := 60) rfl rfl)).cons (q_get F1576 (t := 13) rfl rfl)).cons (q_get F1576 (t := 59) rfl rfl)).cons (q_get F1576 (t := 12) rfl rfl)).cons (q_get F1576 (t := 11) rfl rfl)).cons (q_get F1576 (t := 50) rfl rfl)).cons (q_get F1576 (t := 10) rfl rfl)).cons (q_get F1576 (t := 9) rfl rfl)).cons (q_get F1576 (t := 29) rfl rfl)).cons (q_get F1576 (t := 8) rfl rfl)).cons (q_get F1576 (t := 3) rfl rfl)).cons (q_get F1576 (t := 2) rfl rfl)).cons (q_get F1576 (t := 1) rfl rfl)).cons (q_get F1576 (t := 0) rfl rfl)), (by omega), (fun i hi => absurd hi (by omega)), (((((((((((((((((Ext.refl w).trans hx173).trans hx1226).trans hx1245).trans hx1253).grownN hg1260 (by omega)).grownN hg1265 (by omega)).trans hx1394).grownN hg1440 (by omega)).grownN hg1470 (by omega)).trans hx1491).grownN hg1503 (by omega)).trans hx1520).grownN hg1532 (by omega)).trans hx1546).trans hx1562).grownN hg1569 (by omega)), b1587, b1588, b1589, b1590, b1568, r1591, d1578, d1579, d1580, d1581, d1582, d1583, d1584, d1585, d1586, (by omega), (Nat.le_refl _)⟩ ?_
      clear F1576
      rintro a1592 w1593 ⟨j, F1594, hp1596, hp1597, hx1595, b1598, b1599, b1600, b1601, b1602, r1603, hf1604, hf1605, hf1606, hf1607, hf1608, hf1609, hf1610, hf1611, hf1612, hf1613, hf1614⟩
      have hL1615 := F1594
      have z1616 := hx1595.size
      have z1617 := b1598.lt
      have z1618 := b1599.lt
      have z1619 := b1600.lt
      have z1620 := b1601.lt
      have z1621 := b1602.lt
      have z1622 := own_form0 r1603
      refine wp_seq_k (fun K1623 hK1623 => ?_)
      refine wp_seq_k (fun K1624 hK1624 => ?_)
      have hf1625 := (Fl.own (S := fun b => w143.heap.size ≤ b) r1603 (fun b hb => hb) (intVals_one _))
      refine wp_region_lit ?_
      refine qv 0 (.int .i64 (j : Nat)) F1594 rfl (rn_move (F1594.get rfl)) fun _ F1627 => ?_; clear F1594
      refine qv 1 (.slice Ae ne ce) F1627 rfl (rn_move (F1627.get rfl)) fun _ F1629 => ?_; clear F1627
      refine qv 2 (.int .i64 (ne : Nat)) F1629 rfl (rn_len_slice Try.underlying47 (F1629.get rfl)) fun _ F1631 => ?_; clear F1629
      refine qv 3 (.bool (decide (((j : Nat) : Int) < ((ne : Nat) : Int)))) F1631 rfl (rn_lss (F1631.get rfl) (F1631.get rfl)) fun _ F1633 => ?_; clear F1631
      refine qv 4 (.bool (decide (((j : Nat) : Int) < ((ne : Nat) : Int)))) F1633 rfl (rn_move (F1633.get rfl)) fun _ F1635 => ?_; clear F1633
      by_cases hc1636 : ((j : Nat) : Int) < ((ne : Nat) : Int)
      ·skip
       have hget : E.getD j 0 = ((usedL (Q.take (j + 1)) : Nat) : Int) := by rw [hp176]; exact ends_get (by omega)
       refine qg 5 (.slice Ae ne ce) F1635 (decide_eq_true hc1636) (rn_move (F1635.get rfl)) fun _ F1638 => ?_; clear F1635
       refine qg 6 (.int .i64 (j : Nat)) F1638 (decide_eq_true hc1636) (rn_move (F1638.get rfl)) fun _ F1640 => ?_; clear F1638
       refine qg 7 (.pointer (some ⟨b1304, o1305 + j, none⟩)) F1640 (decide_eq_true hc1636) (rn_index1 Try.underlying47 inf3 ((F1640.get rfl).trans (by rw [hA1306])) (F1640.get rfl) (by omega : (0 : Int) ≤ (j : Nat)) (by omega : ((j : Nat) : Int) < ((ne : Nat) : Int))) fun _ F1642 => ?_; clear F1640
       refine qg 8 (.int .i64 (E.getD j 0)) F1642 (decide_eq_true hc1636) (rn_load (isAgg_no Try.underlying3 rfl) (F1642.get rfl) (Fl.cellAt hf1625 hA1306 (intVals_at (i := j) (by omega)))) fun _ F1644 => ?_; clear F1642
       refine qg 9 (.int .i64 (kk : Nat)) F1644 (decide_eq_true hc1636) (rn_move (F1644.get rfl)) fun _ F1646 => ?_; clear F1644
       refine qg 10 (.bool (decide (((E.getD j 0) : Int) ≤ ((kk : Nat) : Int)))) F1646 (decide_eq_true hc1636) (rn_leq (F1646.get rfl) (F1646.get rfl)) fun _ F1648 => ?_; clear F1646
       refine qv 11 (.bool (decide (((E.getD j 0) : Int) ≤ ((kk : Nat) : Int)))) F1648 rfl (rn_pickT (c_true F1648 rfl (decide_eq_true hc1636)) (F1648.get rfl)) fun _ F1650 => ?_; clear F1648
       refine wpList_nil ?_
       refine hK1624 _ _ ?_
       clear hK1624
       have F1651 := ((((((((((((((((((((((((((((F1650.nil.c F1650 189 rfl).c F1650 27 rfl).c F1650 26 rfl).c F1650 25 rfl).c F1650 24 rfl).c F1650 23 rfl).c F1650 144 rfl).c F1650 22 rfl).c F1650 109 rfl).c F1650 21 rfl).c F1650 20 rfl).c F1650 63 rfl).c F1650 62 rfl).c F1650 61 rfl).c F1650 60 rfl).c F1650 13 rfl).c F1650 59 rfl).c F1650 12 rfl).c F1650 11 rfl).c F1650 50 rfl).c F1650 10 rfl).c F1650 9 rfl).c F1650 29 rfl).c F1650 8 rfl).c F1650 3 rfl).c F1650 2 rfl).c F1650 1 rfl).c F1650 0 rfl)
       clear F1650
       by_cases hc1652 : ((E.getD j 0) : Int) ≤ ((kk : Nat) : Int)
       ·skip
        refine wp_cond_true (c_true F1651 rfl (decide_eq_true hc1652)) ?_
        refine wp_skip ?_
        refine hK1623 _ _ ?_
        clear hK1623
        refine wp_block ?_
        refine wp_region_lit ?_
        refine qv 0 (.int .i64 (j : Nat)) F1651 rfl (rn_move (F1651.get rfl)) fun _ F1654 => ?_; clear F1651
        refine qv 1 (.int .i64 (j + 1 : Nat)) F1654 rfl (rn_addN (a := j) (b := 1) (F1654.get rfl) rfl (by omega)) fun _ F1656 => ?_; clear F1654
        refine qv 2 (.int .i64 (j + 1 : Nat)) F1656 rfl (rn_assign (F1656.get rfl)) fun _ F1658 => ?_; clear F1656
        refine wpList_nil ?_
        refine ⟨⟨(j + 1), (((((((((((((((((((((((((((F1658.nil.cons (q_get F1658 (t := 27) rfl (by first | rfl | (congr 1; omega) | (congr 1; done)))).cons (q_get F1658 (t := 26) rfl rfl)).cons (q_get F1658 (t := 25) rfl rfl)).cons (q_get F1658 (t := 24) rfl rfl)).cons (q_get F1658 (t := 23) rfl rfl)).cons (q_get F1658 (t := 144) rfl rfl)).cons (q_get F1658 (t := 22) rfl rfl)).cons (q_get F1658 (t := 109) rfl rfl)).cons (q_get F1658 (t := 21) rfl rfl)).cons (q_get F1658 (t := 20) rfl rfl)).cons (q_get F1658 (t := 63) rfl rfl)).cons (q_get F1658 (t := 62) rfl rfl)).cons (q_get F1658 (t := 61) rfl rfl)).cons (q_get F1658 (t := 60) rfl rfl)).cons (q_get F1658 (t := 13) rfl rfl)).cons (q_get F1658 (t := 59) rfl rfl)).cons (q_get F1658 (t := 12) rfl rfl)).cons (q_get F1658 (t := 11) rfl rfl)).cons (q_get F1658 (t := 50) rfl rfl)).cons (q_get F1658 (t := 10) rfl rfl)).cons (q_get F1658 (t := 9) rfl rfl)).cons (q_get F1658 (t := 29) rfl rfl)).cons (q_get F1658 (t := 8) rfl rfl)).cons (q_get F1658 (t := 3) rfl rfl)).cons (q_get F1658 (t := 2) rfl rfl)).cons (q_get F1658 (t := 1) rfl rfl)).cons (q_get F1658 (t := 0) rfl rfl)), (by omega), (all_step hp1597 (by omega)), ((Ext.refl w).trans hx1595), b1598, b1599, b1600, b1601, b1602, r1603, hf1604, hf1605, hf1606, hf1607, hf1608, hf1609, hf1610, hf1611, hf1612, (by omega), (by omega)⟩, ?_⟩
        rw [F1658.get (t := 27) rfl, hL1615.get (t := 27) rfl]; simp [intOf] <;> omega
       ·skip
        refine wp_cond_false (c_false F1651 rfl (decide_eq_false hc1652)) ?_
        refine wp_exit ?_
        refine exit_then ?_
        refine exit_then ?_
        refine exit_here ?_
        refine hK1577 _ _ ?_
        clear hK1577
        refine wp_seq_k (fun K1659 hK1659 => ?_)
        have hx1661 : ∃ W, w1593.drew = W ∧ Ext w1593 W := ⟨_, rfl, (Ext.refl _).drew⟩
        obtain ⟨w1660, e1662, hx1661⟩ := hx1661
        have z1663 := hx1661.size
        refine any_start (fun W => Ext w1660 W ∧ Blk W g1559 29 [(.int .i64 (40 : Nat)), (.slice A1542 ((Q.take (ended kk Q)).length) c1543), (.int .i64 ((Q.take (ended kk Q)).length : Nat))] ∧ Blk W g135 29 [(.int .i64 (40 : Nat)), (.slice Aq Q.length cq), (.int .i64 0)]) (fun i => false) 20 #[false, false, false, false, false, false, false, false, false, false, false, false, false, false, false, false, false, false, false, false] rfl rfl rfl ?_
        rw [e1662]; clear e1662
        refine qp 0 (.int .i64 0) F1651 rfl rfl (fun W => (rn_move (F1651.get rfl))) fun _ F1665 => ?_; clear F1651
        refine qp 1 (.bool true) F1665 rfl rfl (fun W => (rn_eql' (F1665.get rfl) rfl (by decide))) fun _ F1667 => ?_; clear F1665
        refine qp 2 (.bool true) F1667 rfl rfl (fun W => (rn_move (F1667.get rfl))) fun _ F1669 => ?_; clear F1667
        refine qp 3 (.int .i64 0) F1669 rfl (wanted_guard rfl rfl rfl F1669 rfl rfl rfl) (fun W => (rn_move (F1669.get rfl))) fun _ F1671 => ?_; clear F1669
        refine qp 4 (.bool true) F1671 rfl (wanted_guard rfl rfl rfl F1671 rfl rfl rfl) (fun W => (rn_eql' (F1671.get rfl) rfl (by decide))) fun _ F1673 => ?_; clear F1671
        refine qp 5 (.bool true) F1673 rfl rfl (fun W => (rn_pickT (c_true F1673 rfl rfl) (F1673.get rfl))) fun _ F1675 => ?_; clear F1673
        refine qp 6 (.bool true) F1675 rfl rfl (fun W => (rn_move (F1675.get rfl))) fun _ F1677 => ?_; clear F1675
        refine qp 7 (.int .i64 0) F1677 rfl (wanted_guard rfl rfl rfl F1677 rfl rfl rfl) (fun W => (rn_move (F1677.get rfl))) fun _ F1679 => ?_; clear F1677
        refine qp 8 (.bool true) F1679 rfl (wanted_guard rfl rfl rfl F1679 rfl rfl rfl) (fun W => (rn_eql' (F1679.get rfl) rfl (by decide))) fun _ F1681 => ?_; clear F1679
        refine qp 9 (.bool true) F1681 rfl rfl (fun W => (rn_pickT (c_true F1681 rfl rfl) (F1681.get rfl))) fun _ F1683 => ?_; clear F1681
        refine qp 10 (.bool true) F1683 rfl rfl (fun W => (rn_move (F1683.get rfl))) fun _ F1685 => ?_; clear F1683
        refine qp 11 (.pointer (some ⟨g1559, 1, none⟩)) F1685 rfl (wanted_guard rfl rfl rfl F1685 rfl rfl rfl) (fun W => (rn_field Try.underlying29 rfl (by kernel_rfl) (F1685.get rfl) rfl)) fun _ F1687 => ?_; clear F1685
        have b1689 := (b1602.ext hx1661)
        have b1690 := (b1599.ext hx1661)
        have hS1688 : Ext w1660 w1660 ∧ Blk w1660 g1559 29 [(.int .i64 (40 : Nat)), (.slice A1542 ((Q.take (ended kk Q)).length) c1543), (.int .i64 ((Q.take (ended kk Q)).length : Nat))] ∧ Blk w1660 g135 29 [(.int .i64 (40 : Nat)), (.slice Aq Q.length cq), (.int .i64 0)] := ⟨(Ext.refl w1660), b1689, b1690⟩
        refine qs 12 (.slice A1542 ((Q.take (ended kk Q)).length) c1543) F1687 rfl (wanted_guard rfl rfl rfl F1687 rfl rfl rfl) hS1688 (fun W hW => (rn_load (isAgg_no Try.underlying22 rfl) (F1687.get rfl) (hW.2.1.rule.1 1))) fun _ F1692 => ?_; clear F1687
        refine qp 13 (.pointer (some ⟨g135, 1, none⟩)) F1692 rfl (wanted_guard rfl rfl rfl F1692 rfl rfl rfl) (fun W => (rn_field Try.underlying29 rfl (by kernel_rfl) (F1692.get rfl) rfl)) fun _ F1694 => ?_; clear F1692
        refine qs 14 (.slice Aq Q.length cq) F1694 rfl (wanted_guard rfl rfl rfl F1694 rfl rfl rfl) hS1688 (fun W hW => (rn_load (isAgg_no Try.underlying22 rfl) (F1694.get rfl) (hW.2.2.rule.1 1))) fun _ F1696 => ?_; clear F1694
        refine qp 15 (.int .i64 (j : Nat)) F1696 rfl (wanted_guard rfl rfl rfl F1696 rfl rfl rfl) (fun W => (rn_move (F1696.get rfl))) fun _ F1698 => ?_; clear F1696
        refine qp 16 (.slice Aq j cq) F1698 rfl (wanted_guard rfl rfl rfl F1698 rfl rfl rfl) (fun W => (rn_sliceHi Try.underlying22 inf35 (F1698.get rfl) (F1698.get rfl) (by omega : (0 : Int) ≤ (j : Nat)) (by omega : ((j : Nat) : Int) ≤ ((cq : Nat) : Int)))) fun _ F1700 => ?_; clear F1698
        refine any_one (i := 17) (by decide +kernel) rfl ?_
        have d1701 := (hf1612.ext hx1661)
        have d1702 := (hf1606.ext hx1661)
        refine o_call F1700 rfl (wanted_guard rfl rfl rfl F1700 rfl rfl rfl) rfl rfl (rn_call (args2 (F1700.get rfl) (F1700.get rfl)) rfl (by kernel_rfl)) (samer_at (v := (.slice A1542 ((Q.take (ended kk Q)).length) c1543)) (u := (.slice Aq j cq)) (Q.take (ended kk Q)) (Q.take j) _ d1701 (RSl.take d1702 (by omega : j ≤ Q.length) (by omega : j ≤ cq) (by omega))) ?_
        rintro _ w1703 ⟨rfl, hx1704⟩
        refine ⟨_, rfl, ?_⟩; intro a1705 F1706; clear F1700; have z1707 := hx1704.size
        have b1708 := (b1689.ext hx1704)
        have b1709 := (b1690.ext hx1704)
        refine ⟨fun _ _ => ⟨((Ext.refl w1660).trans hx1704), b1708, b1709⟩, ?_⟩
        refine qp 18 (.bool (decide ((Q.take (ended kk Q)) = (Q.take j)))) F1706 rfl rfl (fun W => (rn_pickT (c_true F1706 rfl rfl) (F1706.get rfl))) fun _ F1711 => ?_; clear F1706
        refine qp 19 (.bool (decide ((Q.take (ended kk Q)) = (Q.take j)))) F1711 rfl rfl (fun W => (rn_assign (F1711.get rfl))) fun _ F1713 => ?_; clear F1711
        refine any_nil (by decide +kernel) ?_
        refine hK1659 _ _ ?_
        clear hK1659
        have F1714 := ((((((((((((((((((((((((((((F1713.nil.c F1713 189 rfl).c F1713 27 rfl).c F1713 26 rfl).c F1713 25 rfl).c F1713 24 rfl).c F1713 23 rfl).c F1713 144 rfl).c F1713 22 rfl).c F1713 109 rfl).c F1713 21 rfl).c F1713 20 rfl).c F1713 63 rfl).c F1713 62 rfl).c F1713 61 rfl).c F1713 60 rfl).c F1713 13 rfl).c F1713 59 rfl).c F1713 12 rfl).c F1713 11 rfl).c F1713 50 rfl).c F1713 10 rfl).c F1713 9 rfl).c F1713 29 rfl).c F1713 8 rfl).c F1713 3 rfl).c F1713 2 rfl).c F1713 1 rfl).c F1713 0 rfl)
        clear F1713
        refine wp_ret ?_
        refine ret1 F1714 rfl rfl ?_
        have hend : ended kk Q = j := ended_of (by omega) hp1597 (by first | exact .inl (by omega) | exact .inr (by omega))
        exact ⟨congrArg (fun b => Ending.returned (.bool b)) (((decide_eq_true (by rw [hend])) : decide ((Q.take (ended kk Q)) = (Q.take j)) = true) : decide ((Q.take (ended kk Q)) = (Q.take j)) = true), ((((Ext.refl w).trans hx1595).trans hx1661).trans hx1704)⟩
      ·skip
       refine qu 5 F1635 (decide_eq_false hc1636) fun _ F1716 => ?_; clear F1635
       refine qu 6 F1716 (decide_eq_false hc1636) fun _ F1718 => ?_; clear F1716
       refine qu 7 F1718 (decide_eq_false hc1636) fun _ F1720 => ?_; clear F1718
       refine qu 8 F1720 (decide_eq_false hc1636) fun _ F1722 => ?_; clear F1720
       refine qu 9 F1722 (decide_eq_false hc1636) fun _ F1724 => ?_; clear F1722
       refine qu 10 F1724 (decide_eq_false hc1636) fun _ F1726 => ?_; clear F1724
       refine qv 11 (.bool false) F1726 rfl (rn_pickF (c_false F1726 rfl (decide_eq_false hc1636)) rfl) fun _ F1728 => ?_; clear F1726
       refine wpList_nil ?_
       refine hK1624 _ _ ?_
       clear hK1624
       have F1729 := ((((((((((((((((((((((((((((F1728.nil.c F1728 189 rfl).c F1728 27 rfl).c F1728 26 rfl).c F1728 25 rfl).c F1728 24 rfl).c F1728 23 rfl).c F1728 144 rfl).c F1728 22 rfl).c F1728 109 rfl).c F1728 21 rfl).c F1728 20 rfl).c F1728 63 rfl).c F1728 62 rfl).c F1728 61 rfl).c F1728 60 rfl).c F1728 13 rfl).c F1728 59 rfl).c F1728 12 rfl).c F1728 11 rfl).c F1728 50 rfl).c F1728 10 rfl).c F1728 9 rfl).c F1728 29 rfl).c F1728 8 rfl).c F1728 3 rfl).c F1728 2 rfl).c F1728 1 rfl).c F1728 0 rfl)
       clear F1728
       refine wp_cond_false (c_false F1729 rfl rfl) ?_
       refine wp_exit ?_
       refine exit_then ?_
       refine exit_then ?_
       refine exit_here ?_
       refine hK1577 _ _ ?_
       clear hK1577
       refine wp_seq_k (fun K1730 hK1730 => ?_)
       have hx1732 : ∃ W, w1593.drew = W ∧ Ext w1593 W := ⟨_, rfl, (Ext.refl _).drew⟩
       obtain ⟨w1731, e1733, hx1732⟩ := hx1732
       have z1734 := hx1732.size
       refine any_start (fun W => Ext w1731 W ∧ Blk W g1559 29 [(.int .i64 (40 : Nat)), (.slice A1542 ((Q.take (ended kk Q)).length) c1543), (.int .i64 ((Q.take (ended kk Q)).length : Nat))] ∧ Blk W g135 29 [(.int .i64 (40 : Nat)), (.slice Aq Q.length cq), (.int .i64 0)]) (fun i => false) 20 #[false, false, false, false, false, false, false, false, false, false, false, false, false, false, false, false, false, false, false, false] rfl rfl rfl ?_
       rw [e1733]; clear e1733
       refine qp 0 (.int .i64 0) F1729 rfl rfl (fun W => (rn_move (F1729.get rfl))) fun _ F1736 => ?_; clear F1729
       refine qp 1 (.bool true) F1736 rfl rfl (fun W => (rn_eql' (F1736.get rfl) rfl (by decide))) fun _ F1738 => ?_; clear F1736
       refine qp 2 (.bool true) F1738 rfl rfl (fun W => (rn_move (F1738.get rfl))) fun _ F1740 => ?_; clear F1738
       refine qp 3 (.int .i64 0) F1740 rfl (wanted_guard rfl rfl rfl F1740 rfl rfl rfl) (fun W => (rn_move (F1740.get rfl))) fun _ F1742 => ?_; clear F1740
       refine qp 4 (.bool true) F1742 rfl (wanted_guard rfl rfl rfl F1742 rfl rfl rfl) (fun W => (rn_eql' (F1742.get rfl) rfl (by decide))) fun _ F1744 => ?_; clear F1742
       refine qp 5 (.bool true) F1744 rfl rfl (fun W => (rn_pickT (c_true F1744 rfl rfl) (F1744.get rfl))) fun _ F1746 => ?_; clear F1744
       refine qp 6 (.bool true) F1746 rfl rfl (fun W => (rn_move (F1746.get rfl))) fun _ F1748 => ?_; clear F1746
       refine qp 7 (.int .i64 0) F1748 rfl (wanted_guard rfl rfl rfl F1748 rfl rfl rfl) (fun W => (rn_move (F1748.get rfl))) fun _ F1750 => ?_; clear F1748
       refine qp 8 (.bool true) F1750 rfl (wanted_guard rfl rfl rfl F1750 rfl rfl rfl) (fun W => (rn_eql' (F1750.get rfl) rfl (by decide))) fun _ F1752 => ?_; clear F1750
       refine qp 9 (.bool true) F1752 rfl rfl (fun W => (rn_pickT (c_true F1752 rfl rfl) (F1752.get rfl))) fun _ F1754 => ?_; clear F1752
       refine qp 10 (.bool true) F1754 rfl rfl (fun W => (rn_move (F1754.get rfl))) fun _ F1756 => ?_; clear F1754
       refine qp 11 (.pointer (some ⟨g1559, 1, none⟩)) F1756 rfl (wanted_guard rfl rfl rfl F1756 rfl rfl rfl) (fun W => (rn_field Try.underlying29 rfl (by kernel_rfl) (F1756.get rfl) rfl)) fun _ F1758 => ?_; clear F1756
       have b1760 := (b1602.ext hx1732)
       have b1761 := (b1599.ext hx1732)
       have hS1759 : Ext w1731 w1731 ∧ Blk w1731 g1559 29 [(.int .i64 (40 : Nat)), (.slice A1542 ((Q.take (ended kk Q)).length) c1543), (.int .i64 ((Q.take (ended kk Q)).length : Nat))] ∧ Blk w1731 g135 29 [(.int .i64 (40 : Nat)), (.slice Aq Q.length cq), (.int .i64 0)] := ⟨(Ext.refl w1731), b1760, b1761⟩
       refine qs 12 (.slice A1542 ((Q.take (ended kk Q)).length) c1543) F1758 rfl (wanted_guard rfl rfl rfl F1758 rfl rfl rfl) hS1759 (fun W hW => (rn_load (isAgg_no Try.underlying22 rfl) (F1758.get rfl) (hW.2.1.rule.1 1))) fun _ F1763 => ?_; clear F1758
       refine qp 13 (.pointer (some ⟨g135, 1, none⟩)) F1763 rfl (wanted_guard rfl rfl rfl F1763 rfl rfl rfl) (fun W => (rn_field Try.underlying29 rfl (by kernel_rfl) (F1763.get rfl) rfl)) fun _ F1765 => ?_; clear F1763
       refine qs 14 (.slice Aq Q.length cq) F1765 rfl (wanted_guard rfl rfl rfl F1765 rfl rfl rfl) hS1759 (fun W hW => (rn_load (isAgg_no Try.underlying22 rfl) (F1765.get rfl) (hW.2.2.rule.1 1))) fun _ F1767 => ?_; clear F1765
       refine qp 15 (.int .i64 (j : Nat)) F1767 rfl (wanted_guard rfl rfl rfl F1767 rfl rfl rfl) (fun W => (rn_move (F1767.get rfl))) fun _ F1769 => ?_; clear F1767
       refine qp 16 (.slice Aq j cq) F1769 rfl (wanted_guard rfl rfl rfl F1769 rfl rfl rfl) (fun W => (rn_sliceHi Try.underlying22 inf35 (F1769.get rfl) (F1769.get rfl) (by omega : (0 : Int) ≤ (j : Nat)) (by omega : ((j : Nat) : Int) ≤ ((cq : Nat) : Int)))) fun _ F1771 => ?_; clear F1769
       refine any_one (i := 17) (by decide +kernel) rfl ?_
       have d1772 := (hf1612.ext hx1732)
       have d1773 := (hf1606.ext hx1732)
       refine o_call F1771 rfl (wanted_guard rfl rfl rfl F1771 rfl rfl rfl) rfl rfl (rn_call (args2 (F1771.get rfl) (F1771.get rfl)) rfl (by kernel_rfl)) (samer_at (v := (.slice A1542 ((Q.take (ended kk Q)).length) c1543)) (u := (.slice Aq j cq)) (Q.take (ended kk Q)) (Q.take j) _ d1772 (RSl.take d1773 (by omega : j ≤ Q.length) (by omega : j ≤ cq) (by omega))) ?_
       rintro _ w1774 ⟨rfl, hx1775⟩
       refine ⟨_, rfl, ?_⟩; intro a1776 F1777; clear F1771; have z1778 := hx1775.size
       have b1779 := (b1760.ext hx1775)
       have b1780 := (b1761.ext hx1775)
       refine ⟨fun _ _ => ⟨((Ext.refl w1731).trans hx1775), b1779, b1780⟩, ?_⟩
       refine qp 18 (.bool (decide ((Q.take (ended kk Q)) = (Q.take j)))) F1777 rfl rfl (fun W => (rn_pickT (c_true F1777 rfl rfl) (F1777.get rfl))) fun _ F1782 => ?_; clear F1777
       refine qp 19 (.bool (decide ((Q.take (ended kk Q)) = (Q.take j)))) F1782 rfl rfl (fun W => (rn_assign (F1782.get rfl))) fun _ F1784 => ?_; clear F1782
       refine any_nil (by decide +kernel) ?_
       refine hK1730 _ _ ?_
       clear hK1730
       have F1785 := ((((((((((((((((((((((((((((F1784.nil.c F1784 189 rfl).c F1784 27 rfl).c F1784 26 rfl).c F1784 25 rfl).c F1784 24 rfl).c F1784 23 rfl).c F1784 144 rfl).c F1784 22 rfl).c F1784 109 rfl).c F1784 21 rfl).c F1784 20 rfl).c F1784 63 rfl).c F1784 62 rfl).c F1784 61 rfl).c F1784 60 rfl).c F1784 13 rfl).c F1784 59 rfl).c F1784 12 rfl).c F1784 11 rfl).c F1784 50 rfl).c F1784 10 rfl).c F1784 9 rfl).c F1784 29 rfl).c F1784 8 rfl).c F1784 3 rfl).c F1784 2 rfl).c F1784 1 rfl).c F1784 0 rfl)
       clear F1784
       refine wp_ret ?_
       refine ret1 F1785 rfl rfl ?_
       have hend : ended kk Q = j := ended_of (by omega) hp1597 (by first | exact .inl (by omega) | exact .inr (by omega))
       exact ⟨congrArg (fun b => Ending.returned (.bool b)) (((decide_eq_true (by rw [hend])) : decide ((Q.take (ended kk Q)) = (Q.take j)) = true) : decide ((Q.take (ended kk Q)) = (Q.take j)) = true), ((((Ext.refl w).trans hx1595).trans hx1732).trans hx1775)⟩
 ·skip
  refine qu 9 F71 (not_f hc72) fun _ F1787 => ?_; clear F71
  refine qu 10 F1787 (not_f hc72) fun _ F1789 => ?_; clear F1787
  refine qu 11 F1789 (not_f hc72) fun _ F1791 => ?_; clear F1789
  refine qv 12 (.bool true) F1791 rfl (rn_pickT (c_true F1791 rfl (not_f hc72)) rfl) fun _ F1793 => ?_; clear F1791
  refine qv 13 (.bool true) F1793 rfl (rn_move (F1793.get rfl)) fun _ F1795 => ?_; clear F1793
  refine qu 14 F1795 rfl fun _ F1797 => ?_; clear F1795
  refine qu 15 F1797 rfl fun _ F1799 => ?_; clear F1797
  refine qv 16 (.bool true) F1799 rfl (rn_pickT (c_true F1799 rfl rfl) rfl) fun _ F1801 => ?_; clear F1799
  refine wpList_nil ?_
  refine hK47 _ _ ?_
  clear hK47
  have F1802 := (((((((((F1801.nil.c F1801 50 rfl).c F1801 10 rfl).c F1801 9 rfl).c F1801 29 rfl).c F1801 8 rfl).c F1801 3 rfl).c F1801 2 rfl).c F1801 1 rfl).c F1801 0 rfl)
  clear F1801
  refine wp_cond_true (c_true F1802 rfl rfl) ?_
  refine wp_seq_k (fun K1803 hK1803 => ?_)
  refine wp_region_lit ?_
  refine qv 0 (.int .i64 0) F1802 rfl (rn_move (F1802.get rfl)) fun _ F1805 => ?_; clear F1802
  refine qv 1 (.bool true) F1805 rfl (rn_eql' (F1805.get rfl) rfl (by decide)) fun _ F1807 => ?_; clear F1805
  refine qv 2 (.bool true) F1807 rfl (rn_assign (F1807.get rfl)) fun _ F1809 => ?_; clear F1807
  refine wpList_nil ?_
  refine hK1803 _ _ ?_
  clear hK1803
  refine wp_ret ?_
  refine ret_then ?_
  refine ret1 F1809 rfl rfl ?_
  exact ⟨congrArg (fun b => Ending.returned (.bool b)) (rfl : true = true), ((((((Ext.refl w).trans hx7).trans hx21).trans hx34).grownN hg41 (by omega)).trans hx62)⟩

end Go.Proofs.Ytfmhnplkpohogaa
