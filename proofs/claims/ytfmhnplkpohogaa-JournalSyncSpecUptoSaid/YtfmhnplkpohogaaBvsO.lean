/- Several texts in one: JrW, JrLc. -/
import Derived.Test.YtfmhnplkpohogaaProg
import Derived.Test.YtfmhnplkpohogaaBvsK
import Derived.KernelRfl
import Derived.Test.YtfmhnplkpohogaaBvsA
import Derived.Test.YtfmhnplkpohogaaBvsB
import Derived.Test.YtfmhnplkpohogaaBvsN
set_option linter.unusedVariables false
set_option linter.unusedSimpArgs false
namespace Go.Proofs.Ytfmhnplkpohogaa
open Go.RowKit

variable {S S' : Nat → Prop}

set_option maxRecDepth 100000 in
set_option maxHeartbeats 8000000 in
theorem rsync9_any (m : Int) (A : Option Addr) (c : Nat) (R : List (List UInt8)) (s : Int) (X : Option Addr) (x : Nat) (Y : Option Addr) (y : Nat) (d : Dk) (w : World) (hn : RBss S w (.slice A R.length c) R) (hb : ∀ x ∈ R, x.length ≤ 140737488355328) (hu : usedL R < 9223372036854775808) (hd : RDk S w (.agg #[.slice X d.sectors.length x, .slice Y d.pending.length y, .int .i64 d.left, .bool d.stopped]) d) :
  Calls Try.prog 22 #[.agg #[.int .i64 m, .slice A R.length c, .int .i64 s], .agg #[.slice X d.sectors.length x, .slice Y d.pending.length y, .int .i64 d.left, .bool d.stopped]] w (SyncRet S w ((Lg.mk m R s).sync d)) := by
 have hnc := RBss.clip hn
 obtain ⟨-, hcR1, hcR2⟩ := RBss.at hn
 have hdc := RDk.clip hd
 obtain ⟨hq1, hq2⟩ := (RDk.len hd).1.at.2.1
 obtain ⟨-, hq3, hq4⟩ := RSl.elem (RDk.len hd).2.1
 refine calls_enter (l := [(.agg #[(.int .i64 m), (.slice A R.length c), (.int .i64 s)]), (.agg #[(.slice X d.sectors.length x), (.slice Y d.pending.length y), (.int .i64 d.left), (.bool d.stopped)])]) Try.func22 rfl rfl rfl (fun aA hF => ?_)
 refine wp_seq_k (fun K1 hK1 => ?_)
 refine wp_region_lit ?_
 refine wpl_op (i := 0) rfl (o_new (fun g => (.pointer (some ⟨g, 0, none⟩))) [(.int .i64 m), (.slice A R.length c), (.int .i64 s)] 29 hF rfl rfl rfl rfl (rn_box (hF.get rfl) (by kernel_rfl)) ?_)
 intro g2 w3 a8 F9 z6 z7 b4 hx5; clear hF
 refine wpl_op (i := 1) rfl (o_new (fun g => (.pointer (some ⟨g, 0, none⟩))) [(.slice X d.sectors.length x), (.slice Y d.pending.length y), (.int .i64 d.left), (.bool d.stopped)] 25 F9 rfl rfl rfl rfl (rn_box (F9.get rfl) (by kernel_rfl)) ?_)
 intro g10 w11 a16 F17 z14 z15 b12 hx13; clear F9
 refine wpl_op (i := 2) rfl (o_new (fun g => (.pointer (some ⟨g, 0, none⟩))) [(.int .i64 0), (.slice none 0 0), (.int .i64 0)] 29 F17 rfl rfl rfl rfl (by kernel_rfl) ?_)
 intro g18 w19 a24 F25 z22 z23 b20 hx21; clear F17
 refine wpl_op (i := 3) rfl (o_new (fun g => (.pointer (some ⟨g, 0, none⟩))) [(.slice none 0 0), (.slice none 0 0), (.int .i64 0), (.bool false)] 25 F25 rfl rfl rfl rfl (by kernel_rfl) ?_)
 intro g26 w27 a32 F33 z30 z31 b28 hx29; clear F25
 refine qv 4 (.int .i64 0) F33 rfl (rn_assign rfl) fun _ F35 => ?_; clear F33
 refine wpList_nil ?_
 refine hK1 _ _ ?_
 clear hK1
 refine wp_seq_k (fun K36 hK36 => ?_)
 refine wp_region_lit ?_
 have b37 := (((b4.ext hx13).ext hx21).ext hx29)
 refine qv 0 (.agg #[(.int .i64 m), (.slice A R.length c), (.int .i64 s)]) F35 rfl (rn_loadBlk (F35.get rfl) b37 Try.underlying29 rfl inf29) fun _ F39 => ?_; clear F35
 have d40 := ((((hnc.ext hx5).ext hx13).ext hx21).ext hx29)
 refine wpl_op (i := 1) rfl (o_call F39 rfl rfl rfl rfl (rn_call (args1 (F39.get rfl)) rfl (by kernel_rfl)) (rchk_at (v := (.slice A R.length c)) m R s _ d40 hb) ?_)
 rintro _ w41 ⟨rfl, hx42⟩
 refine ⟨_, rfl, ?_⟩; intro a43 F44; clear F39; have z45 := hx42.size
 refine qv 2 (.int .i64 ((Lg.mk m R s).check)) F44 rfl (rn_assign (F44.get rfl)) fun _ F47 => ?_; clear F44
 refine wpList_nil ?_
 refine hK36 _ _ ?_
 clear hK36
 refine wp_seq_k (fun K48 hK48 => ?_)
 refine wp_seq_k (fun K49 hK49 => ?_)
 refine wp_region_lit ?_
 refine qv 0 (.int .i64 ((Lg.mk m R s).check)) F47 rfl (rn_move (F47.get rfl)) fun _ F51 => ?_; clear F47
 refine qv 1 (.bool (decide (((Lg.mk m R s).check : Int) ≠ (0 : Int)))) F51 rfl (rn_neq (F51.get rfl) rfl) fun _ F53 => ?_; clear F51
 refine wpList_nil ?_
 refine hK49 _ _ ?_
 clear hK49
 by_cases hc54 : ((Lg.mk m R s).check : Int) ≠ (0 : Int)
 ·skip
  have hlc : (Lg.mk m R s).check ≠ 0 := hc54
  refine wp_cond_true (c_true F53 rfl (decide_eq_true hc54)) ?_
  refine wp_seq_k (fun K55 hK55 => ?_)
  refine wp_region_lit ?_
  refine qv 0 (.agg #[(.int .i64 0), (.slice none 0 0), (.int .i64 0)]) F53 rfl (rn_build (parts0 ) (by kernel_rfl)) fun _ F57 => ?_; clear F53
  refine qv 1 (.agg #[(.slice none 0 0), (.slice none 0 0), (.int .i64 0), (.bool false)]) F57 rfl (rn_build (parts0 ) (by kernel_rfl)) fun _ F59 => ?_; clear F57
  refine qv 2 (.int .i64 ((Lg.mk m R s).check)) F59 rfl (rn_move (F59.get rfl)) fun _ F61 => ?_; clear F59
  have b65 := ((b20.ext hx29).ext hx42)
  refine wpl_op (i := 3) rfl (o_store (cells := [(.int .i64 0), (.slice none 0 0), (.int .i64 0)]) F61 rfl rfl rfl rfl (F61.get rfl) (F61.get rfl) b65 inf29 rfl (by simp [Value.oneCell']) ?_)
  intro w62 b63 hg64; have z66 := hg64.size
  have b70 := ((b28.ext hx42).grownN hg64 (by omega))
  refine wpl_op (i := 4) rfl (o_store (cells := [(.slice none 0 0), (.slice none 0 0), (.int .i64 0), (.bool false)]) F61 rfl rfl rfl rfl (F61.get rfl) (F61.get rfl) b70 inf25 rfl (by simp [Value.oneCell']) ?_)
  intro w67 b68 hg69; have z71 := hg69.size
  refine qv 5 (.int .i64 ((Lg.mk m R s).check)) F61 rfl (rn_assign (F61.get rfl)) fun _ F73 => ?_; clear F61
  refine wpList_nil ?_
  refine hK55 _ _ ?_
  clear hK55
  have F74 := (((((((((F73.nil.c F73 21 rfl).c F73 7 rfl).c F73 6 rfl).c F73 5 rfl).c F73 4 rfl).c F73 3 rfl).c F73 2 rfl).c F73 1 rfl).c F73 0 rfl)
  clear F73
  refine wp_ret ?_
  refine ret_then ?_
  have b75 := (b63.grownN hg69 (by omega))
  refine retCC1 F74 rfl rfl rfl rfl b75 Try.underlying29 rfl inf29 b68 Try.underlying25 rfl inf25 ?_
  exact lsync_err (sync_1 hlc) ((((((((Ext.refl w).trans hx5).trans hx13).trans hx21).trans hx29).trans hx42).grownN hg64 (by omega)).grownN hg69 (by omega))
 ·skip
  have hlc : (Lg.mk m R s).check = 0 := Decidable.not_not.1 hc54
  obtain ⟨hm1, hm2, hs1, hs2, -⟩ : 1 ≤ m ∧ m ≤ 4096 ∧ 0 ≤ s ∧ s ≤ (R.length : Nat) ∧ usedW R ≤ m := check_facts hlc
  refine wp_cond_false (c_false F53 rfl (decide_eq_false hc54)) ?_
  refine wp_skip ?_
  refine hK48 _ _ ?_
  clear hK48
  refine wp_seq_k (fun K76 hK76 => ?_)
  refine wp_region_lit ?_
  have b77 := (((b12.ext hx21).ext hx29).ext hx42)
  refine qv 0 (.agg #[(.slice X d.sectors.length x), (.slice Y d.pending.length y), (.int .i64 d.left), (.bool d.stopped)]) F53 rfl (rn_loadBlk (F53.get rfl) b77 Try.underlying25 rfl inf25) fun _ F79 => ?_; clear F53
  have d80 := (((((hdc.ext hx5).ext hx13).ext hx21).ext hx29).ext hx42)
  refine wpl_op (i := 1) rfl (o_call F79 rfl rfl rfl rfl (rn_call (args1 (F79.get rfl)) rfl (by kernel_rfl)) (rcheck_any (S := (Clip S w)) _ d _ d80) ?_)
  rintro _ w81 ⟨rfl, hx82⟩
  refine ⟨_, rfl, ?_⟩; intro a83 F84; clear F79; have z85 := hx82.size
  refine qv 2 (.int .i64 d.check) F84 rfl (rn_assign (F84.get rfl)) fun _ F87 => ?_; clear F84
  refine wpList_nil ?_
  refine hK76 _ _ ?_
  clear hK76
  have F88 := ((((((((((F87.nil.c F87 8 rfl).c F87 21 rfl).c F87 7 rfl).c F87 6 rfl).c F87 5 rfl).c F87 4 rfl).c F87 3 rfl).c F87 2 rfl).c F87 1 rfl).c F87 0 rfl)
  clear F87
  refine wp_seq_k (fun K89 hK89 => ?_)
  refine wp_seq_k (fun K90 hK90 => ?_)
  refine wp_region_lit ?_
  refine qv 0 (.int .i64 d.check) F88 rfl (rn_move (F88.get rfl)) fun _ F92 => ?_; clear F88
  refine qv 1 (.bool (decide ((d.check : Int) ≠ (0 : Int)))) F92 rfl (rn_neq (F92.get rfl) rfl) fun _ F94 => ?_; clear F92
  refine wpList_nil ?_
  refine hK90 _ _ ?_
  clear hK90
  by_cases hc95 : (d.check : Int) ≠ (0 : Int)
  ·skip
   have hdz : d.check ≠ 0 := hc95
   refine wp_cond_true (c_true F94 rfl (decide_eq_true hc95)) ?_
   refine wp_seq_k (fun K96 hK96 => ?_)
   refine wp_region_lit ?_
   refine qv 0 (.agg #[(.int .i64 0), (.slice none 0 0), (.int .i64 0)]) F94 rfl (rn_build (parts0 ) (by kernel_rfl)) fun _ F98 => ?_; clear F94
   refine qv 1 (.agg #[(.slice none 0 0), (.slice none 0 0), (.int .i64 0), (.bool false)]) F98 rfl (rn_build (parts0 ) (by kernel_rfl)) fun _ F100 => ?_; clear F98
   refine qv 2 (.int .i64 d.check) F100 rfl (rn_move (F100.get rfl)) fun _ F102 => ?_; clear F100
   have b106 := (((b20.ext hx29).ext hx42).ext hx82)
   refine wpl_op (i := 3) rfl (o_store (cells := [(.int .i64 0), (.slice none 0 0), (.int .i64 0)]) F102 rfl rfl rfl rfl (F102.get rfl) (F102.get rfl) b106 inf29 rfl (by simp [Value.oneCell']) ?_)
   intro w103 b104 hg105; have z107 := hg105.size
   have b111 := (((b28.ext hx42).ext hx82).grownN hg105 (by omega))
   refine wpl_op (i := 4) rfl (o_store (cells := [(.slice none 0 0), (.slice none 0 0), (.int .i64 0), (.bool false)]) F102 rfl rfl rfl rfl (F102.get rfl) (F102.get rfl) b111 inf25 rfl (by simp [Value.oneCell']) ?_)
   intro w108 b109 hg110; have z112 := hg110.size
   refine qv 5 (.int .i64 d.check) F102 rfl (rn_assign (F102.get rfl)) fun _ F114 => ?_; clear F102
   refine wpList_nil ?_
   refine hK96 _ _ ?_
   clear hK96
   have F115 := (((((((((((F114.nil.c F114 28 rfl).c F114 8 rfl).c F114 21 rfl).c F114 7 rfl).c F114 6 rfl).c F114 5 rfl).c F114 4 rfl).c F114 3 rfl).c F114 2 rfl).c F114 1 rfl).c F114 0 rfl)
   clear F114
   refine wp_ret ?_
   refine ret_then ?_
   have b116 := (b104.grownN hg110 (by omega))
   refine retCC1 F115 rfl rfl rfl rfl b116 Try.underlying29 rfl inf29 b109 Try.underlying25 rfl inf25 ?_
   exact lsync_err (sync_2 hlc hdz) (((((((((Ext.refl w).trans hx5).trans hx13).trans hx21).trans hx29).trans hx42).trans hx82).grownN hg105 (by omega)).grownN hg110 (by omega))
  ·skip
   have hdz : d.check = 0 := Decidable.not_not.1 hc95
   refine wp_cond_false (c_false F94 rfl (decide_eq_false hc95)) ?_
   refine wp_skip ?_
   refine hK89 _ _ ?_
   clear hK89
   refine wp_seq_k (fun K117 hK117 => ?_)
   refine wp_seq_k (fun K118 hK118 => ?_)
   refine wp_region_lit ?_
   refine qv 0 (.pointer (some ⟨g10, 3, none⟩)) F94 rfl (rn_field Try.underlying25 rfl (by kernel_rfl) (F94.get rfl) rfl) fun _ F120 => ?_; clear F94
   have b121 := (b77.ext hx82)
   refine qv 1 (.bool d.stopped) F120 rfl (rn_load (isAgg_no Try.underlying4 rfl) (F120.get rfl) (b121.rule.1 3)) fun _ F123 => ?_; clear F120
   refine wpList_nil ?_
   refine hK118 _ _ ?_
   clear hK118
   rcases Bool.eq_false_or_eq_true d.stopped with hc124 | hc124
   ·skip
    have hst := hc124
    refine wp_cond_true (c_true F123 rfl hc124) ?_
    refine wp_seq_k (fun K125 hK125 => ?_)
    refine wp_region_lit ?_
    refine qv 0 (.agg #[(.int .i64 0), (.slice none 0 0), (.int .i64 0)]) F123 rfl (rn_build (parts0 ) (by kernel_rfl)) fun _ F127 => ?_; clear F123
    refine qv 1 (.agg #[(.slice none 0 0), (.slice none 0 0), (.int .i64 0), (.bool false)]) F127 rfl (rn_build (parts0 ) (by kernel_rfl)) fun _ F129 => ?_; clear F127
    have b133 := (((b20.ext hx29).ext hx42).ext hx82)
    refine wpl_op (i := 2) rfl (o_store (cells := [(.int .i64 0), (.slice none 0 0), (.int .i64 0)]) F129 rfl rfl rfl rfl (F129.get rfl) (F129.get rfl) b133 inf29 rfl (by simp [Value.oneCell']) ?_)
    intro w130 b131 hg132; have z134 := hg132.size
    have b138 := (((b28.ext hx42).ext hx82).grownN hg132 (by omega))
    refine wpl_op (i := 3) rfl (o_store (cells := [(.slice none 0 0), (.slice none 0 0), (.int .i64 0), (.bool false)]) F129 rfl rfl rfl rfl (F129.get rfl) (F129.get rfl) b138 inf25 rfl (by simp [Value.oneCell']) ?_)
    intro w135 b136 hg137; have z139 := hg137.size
    refine qv 4 (.int .i64 380) F129 rfl (rn_assign rfl) fun _ F141 => ?_; clear F129
    refine wpList_nil ?_
    refine hK125 _ _ ?_
    clear hK125
    have F142 := ((((((((((((F141.nil.c F141 33 rfl).c F141 28 rfl).c F141 8 rfl).c F141 21 rfl).c F141 7 rfl).c F141 6 rfl).c F141 5 rfl).c F141 4 rfl).c F141 3 rfl).c F141 2 rfl).c F141 1 rfl).c F141 0 rfl)
    clear F141
    refine wp_ret ?_
    refine ret_then ?_
    have b143 := (b131.grownN hg137 (by omega))
    refine retCC1 F142 rfl rfl rfl rfl b143 Try.underlying29 rfl inf29 b136 Try.underlying25 rfl inf25 ?_
    exact lsync_err ((sync_4 hlc hdz (.inl hst) (by rw [openE_2 hdz hst]; decide)).trans (by rw [openE_2 hdz hst])) (((((((((Ext.refl w).trans hx5).trans hx13).trans hx21).trans hx29).trans hx42).trans hx82).grownN hg132 (by omega)).grownN hg137 (by omega))
   ·skip
    have hst := hc124
    refine wp_cond_false (c_false F123 rfl hc124) ?_
    refine wp_skip ?_
    refine hK117 _ _ ?_
    clear hK117
    refine wp_seq_k (fun K144 hK144 => ?_)
    refine wp_seq_k (fun K145 hK145 => ?_)
    refine wp_region_lit ?_
    refine qv 0 (.pointer (some ⟨g2, 0, none⟩)) F123 rfl (rn_field Try.underlying29 rfl (by kernel_rfl) (F123.get rfl) rfl) fun _ F147 => ?_; clear F123
    have b148 := ((b37.ext hx42).ext hx82)
    refine qv 1 (.int .i64 m) F147 rfl (rn_load (isAgg_no Try.underlying3 rfl) (F147.get rfl) (b148.rule.1 0)) fun _ F150 => ?_; clear F147
    refine qv 2 (.pointer (some ⟨g10, 0, none⟩)) F150 rfl (rn_field Try.underlying25 rfl (by kernel_rfl) (F150.get rfl) rfl) fun _ F152 => ?_; clear F150
    refine qv 3 (.slice X d.sectors.length x) F152 rfl (rn_load (isAgg_no Try.underlying22 rfl) (F152.get rfl) (b121.rule.1 0)) fun _ F154 => ?_; clear F152
    refine qv 4 (.int .i64 (d.sectors.length : Nat)) F154 rfl (rn_len_slice Try.underlying22 (F154.get rfl)) fun _ F156 => ?_; clear F154
    refine qv 5 (.bool (decide ((m : Int) ≠ ((d.sectors.length : Nat) : Int)))) F156 rfl (rn_neq (F156.get rfl) (F156.get rfl)) fun _ F158 => ?_; clear F156
    refine qv 6 (.bool (decide ((m : Int) ≠ ((d.sectors.length : Nat) : Int)))) F158 rfl (rn_move (F158.get rfl)) fun _ F160 => ?_; clear F158
    by_cases hc161 : (m : Int) ≠ ((d.sectors.length : Nat) : Int)
    ·skip
     have hmn : m ≠ (d.sectors.length : Nat) := hc161
     refine qu 7 F160 (decide_eq_true hc161) fun _ F163 => ?_; clear F160
     refine qu 8 F163 (decide_eq_true hc161) fun _ F165 => ?_; clear F163
     refine qu 9 F165 (decide_eq_true hc161) fun _ F167 => ?_; clear F165
     refine qu 10 F167 (decide_eq_true hc161) fun _ F169 => ?_; clear F167
     refine qv 11 (.bool true) F169 rfl (rn_pickT (c_true F169 rfl (decide_eq_true hc161)) rfl) fun _ F171 => ?_; clear F169
     refine wpList_nil ?_
     refine hK145 _ _ ?_
     clear hK145
     have F172 := (((((((((((((F171.nil.c F171 47 rfl).c F171 33 rfl).c F171 28 rfl).c F171 8 rfl).c F171 21 rfl).c F171 7 rfl).c F171 6 rfl).c F171 5 rfl).c F171 4 rfl).c F171 3 rfl).c F171 2 rfl).c F171 1 rfl).c F171 0 rfl)
     clear F171
     refine wp_cond_true (c_true F172 rfl rfl) ?_
     refine wp_seq_k (fun K173 hK173 => ?_)
     refine wp_region_lit ?_
     refine qv 0 (.agg #[(.int .i64 0), (.slice none 0 0), (.int .i64 0)]) F172 rfl (rn_build (parts0 ) (by kernel_rfl)) fun _ F175 => ?_; clear F172
     refine qv 1 (.agg #[(.slice none 0 0), (.slice none 0 0), (.int .i64 0), (.bool false)]) F175 rfl (rn_build (parts0 ) (by kernel_rfl)) fun _ F177 => ?_; clear F175
     have b181 := (((b20.ext hx29).ext hx42).ext hx82)
     refine wpl_op (i := 2) rfl (o_store (cells := [(.int .i64 0), (.slice none 0 0), (.int .i64 0)]) F177 rfl rfl rfl rfl (F177.get rfl) (F177.get rfl) b181 inf29 rfl (by simp [Value.oneCell']) ?_)
     intro w178 b179 hg180; have z182 := hg180.size
     have b186 := (((b28.ext hx42).ext hx82).grownN hg180 (by omega))
     refine wpl_op (i := 3) rfl (o_store (cells := [(.slice none 0 0), (.slice none 0 0), (.int .i64 0), (.bool false)]) F177 rfl rfl rfl rfl (F177.get rfl) (F177.get rfl) b186 inf25 rfl (by simp [Value.oneCell']) ?_)
     intro w183 b184 hg185; have z187 := hg185.size
     refine qv 4 (.int .i64 1) F177 rfl (rn_assign rfl) fun _ F189 => ?_; clear F177
     refine wpList_nil ?_
     refine hK173 _ _ ?_
     clear hK173
     refine wp_ret ?_
     refine ret_then ?_
     have b190 := (b179.grownN hg185 (by omega))
     refine retCC1 F189 rfl rfl rfl rfl b190 Try.underlying29 rfl inf29 b184 Try.underlying25 rfl inf25 ?_
     exact lsync_err (sync_3 hlc hdz hst hmn) (((((((((Ext.refl w).trans hx5).trans hx13).trans hx21).trans hx29).trans hx42).trans hx82).grownN hg180 (by omega)).grownN hg185 (by omega))
    ·skip
     have hmn : m = (d.sectors.length : Nat) := Decidable.not_not.1 hc161
     refine qg 7 (.pointer (some ⟨g10, 1, none⟩)) F160 (decide_eq_false hc161) (rn_field Try.underlying25 rfl (by kernel_rfl) (F160.get rfl) rfl) fun _ F192 => ?_; clear F160
     refine qg 8 (.slice Y d.pending.length y) F192 (decide_eq_false hc161) (rn_load (isAgg_no Try.underlying23 rfl) (F192.get rfl) (b121.rule.1 1)) fun _ F194 => ?_; clear F192
     refine qg 9 (.int .i64 (d.pending.length : Nat)) F194 (decide_eq_false hc161) (rn_len_slice Try.underlying23 (F194.get rfl)) fun _ F196 => ?_; clear F194
     refine qg 10 (.bool (decide ((0 : Int) < ((d.pending.length : Nat) : Int)))) F196 (decide_eq_false hc161) (rn_gtr (F196.get rfl) rfl) fun _ F198 => ?_; clear F196
     refine qv 11 (.bool (decide ((0 : Int) < ((d.pending.length : Nat) : Int)))) F198 rfl (rn_pickF (c_false F198 rfl (decide_eq_false hc161)) (F198.get rfl)) fun _ F200 => ?_; clear F198
     refine wpList_nil ?_
     refine hK145 _ _ ?_
     clear hK145
     have F201 := (((((((((((((F200.nil.c F200 47 rfl).c F200 33 rfl).c F200 28 rfl).c F200 8 rfl).c F200 21 rfl).c F200 7 rfl).c F200 6 rfl).c F200 5 rfl).c F200 4 rfl).c F200 3 rfl).c F200 2 rfl).c F200 1 rfl).c F200 0 rfl)
     clear F200
     by_cases hc202 : (0 : Int) < ((d.pending.length : Nat) : Int)
     ·skip
      have hpe : 0 < d.pending.length := by omega
      refine wp_cond_true (c_true F201 rfl (decide_eq_true hc202)) ?_
      refine wp_seq_k (fun K203 hK203 => ?_)
      refine wp_region_lit ?_
      refine qv 0 (.agg #[(.int .i64 0), (.slice none 0 0), (.int .i64 0)]) F201 rfl (rn_build (parts0 ) (by kernel_rfl)) fun _ F205 => ?_; clear F201
      refine qv 1 (.agg #[(.slice none 0 0), (.slice none 0 0), (.int .i64 0), (.bool false)]) F205 rfl (rn_build (parts0 ) (by kernel_rfl)) fun _ F207 => ?_; clear F205
      have b211 := (((b20.ext hx29).ext hx42).ext hx82)
      refine wpl_op (i := 2) rfl (o_store (cells := [(.int .i64 0), (.slice none 0 0), (.int .i64 0)]) F207 rfl rfl rfl rfl (F207.get rfl) (F207.get rfl) b211 inf29 rfl (by simp [Value.oneCell']) ?_)
      intro w208 b209 hg210; have z212 := hg210.size
      have b216 := (((b28.ext hx42).ext hx82).grownN hg210 (by omega))
      refine wpl_op (i := 3) rfl (o_store (cells := [(.slice none 0 0), (.slice none 0 0), (.int .i64 0), (.bool false)]) F207 rfl rfl rfl rfl (F207.get rfl) (F207.get rfl) b216 inf25 rfl (by simp [Value.oneCell']) ?_)
      intro w213 b214 hg215; have z217 := hg215.size
      refine qv 4 (.int .i64 1) F207 rfl (rn_assign rfl) fun _ F219 => ?_; clear F207
      refine wpList_nil ?_
      refine hK203 _ _ ?_
      clear hK203
      refine wp_ret ?_
      refine ret_then ?_
      have b220 := (b209.grownN hg215 (by omega))
      refine retCC1 F219 rfl rfl rfl rfl b220 Try.underlying29 rfl inf29 b214 Try.underlying25 rfl inf25 ?_
      exact lsync_err ((sync_4 hlc hdz (.inr hmn) (by rw [openE_3 hdz hst hpe]; decide)).trans (by rw [openE_3 hdz hst hpe])) (((((((((Ext.refl w).trans hx5).trans hx13).trans hx21).trans hx29).trans hx42).trans hx82).grownN hg210 (by omega)).grownN hg215 (by omega))
     ·skip
      have hpe : ¬ 0 < d.pending.length := by omega
      refine wp_cond_false (c_false F201 rfl (decide_eq_false hc202)) ?_
      refine wp_skip ?_
      refine hK144 _ _ ?_
      clear hK144
      refine wp_seq_k (fun K221 hK221 => ?_)
      have hop := openE_0 hdz hst hpe
      have hrun := runs_of_check hdz hst; obtain ⟨-, hl, -, -, -, -, -, hL⟩ := runs_facts hrun; have hopr := (open_good hop).1
      refine wp_region_lit ?_
      refine qv 0 (.pointer (some ⟨g10, 0, none⟩)) F201 rfl (rn_field Try.underlying25 rfl (by kernel_rfl) (F201.get rfl) rfl) fun _ F223 => ?_; clear F201
      refine qv 1 (.slice X d.sectors.length x) F223 rfl (rn_load (isAgg_no Try.underlying22 rfl) (F223.get rfl) (b121.rule.1 0)) fun _ F225 => ?_; clear F223
      have d226 := (((((((RDk.len hdc).1.ext hx5).ext hx13).ext hx21).ext hx29).ext hx42).ext hx82)
      have z227 := maxG_lt hL
      refine wpl_op (i := 2) rfl (o_call F225 rfl rfl rfl rfl (rn_call (args1 (F225.get rfl)) rfl (by kernel_rfl)) (generation_at (v := (.slice X d.sectors.length x)) d.sectors _ d226 hL) ?_)
      rintro _ w228 ⟨rfl, hx229⟩
      refine ⟨_, rfl, ?_⟩; intro a230 F231; clear F225; have z232 := hx229.size
      refine qv 3 (.int .u64 (maxG d.sectors + 1 : Nat)) F231 rfl (rn_assign (F231.get rfl)) fun _ F234 => ?_; clear F231
      refine wpList_nil ?_
      refine hK221 _ _ ?_
      clear hK221
      refine wp_seq_k (fun K235 hK235 => ?_)
      refine wp_seq_k (fun K236 hK236 => ?_)
      obtain ⟨g, hgg⟩ : ∃ g, maxG d.sectors + 1 = g := ⟨_, rfl⟩
      rw [hgg] at F234
      have hgl := maxG_lt hL
      have hx238 : ∃ W, w228.drew = W ∧ Ext w228 W := ⟨_, rfl, (Ext.refl _).drew⟩
      obtain ⟨w237, e239, hx238⟩ := hx238
      have z240 := hx238.size
      refine any_start (fun W => Ext w237 W ∧ Blk W g10 25 [(.slice X d.sectors.length x), (.slice Y d.pending.length y), (.int .i64 d.left), (.bool d.stopped)] ∧ Blk W g2 29 [(.int .i64 m), (.slice A R.length c), (.int .i64 s)]) (fun i => false) 14 #[false, false, false, false, false, false, false, false, false, false, false, false, false, false] rfl rfl rfl ?_
      rw [e239]; clear e239
      refine qp 0 (.pointer (some ⟨g10, 0, none⟩)) F234 rfl rfl (fun W => (rn_field Try.underlying25 rfl (by kernel_rfl) (F234.get rfl) rfl)) fun _ F242 => ?_; clear F234
      have b244 := ((b121.ext hx229).ext hx238)
      have b245 := ((b148.ext hx229).ext hx238)
      have hS243 : Ext w237 w237 ∧ Blk w237 g10 25 [(.slice X d.sectors.length x), (.slice Y d.pending.length y), (.int .i64 d.left), (.bool d.stopped)] ∧ Blk w237 g2 29 [(.int .i64 m), (.slice A R.length c), (.int .i64 s)] := ⟨(Ext.refl w237), b244, b245⟩
      refine qs 1 (.slice X d.sectors.length x) F242 rfl rfl hS243 (fun W hW => (rn_load (isAgg_no Try.underlying22 rfl) (F242.get rfl) (hW.2.1.rule.1 0))) fun _ F247 => ?_; clear F242
      refine qp 3 (.pointer (some ⟨g2, 1, none⟩)) F247 rfl rfl (fun W => (rn_field Try.underlying29 rfl (by kernel_rfl) (F247.get rfl) rfl)) fun _ F249 => ?_; clear F247
      refine qs 4 (.slice A R.length c) F249 rfl rfl hS243 (fun W hW => (rn_load (isAgg_no Try.underlying22 rfl) (F249.get rfl) (hW.2.2.rule.1 1))) fun _ F251 => ?_; clear F249
      refine qp 5 (.pointer (some ⟨g2, 2, none⟩)) F251 rfl rfl (fun W => (rn_field Try.underlying29 rfl (by kernel_rfl) (F251.get rfl) rfl)) fun _ F253 => ?_; clear F251
      refine qs 6 (.int .i64 s) F253 rfl rfl hS243 (fun W hW => (rn_load (isAgg_no Try.underlying3 rfl) (F253.get rfl) (hW.2.2.rule.1 2))) fun _ F255 => ?_; clear F253
      refine qp 7 (.slice A ((s : Int).toNat) c) F255 rfl rfl (fun W => (rn_sliceHi Try.underlying22 inf35 (F255.get rfl) (F255.get rfl) (by omega : (0 : Int) ≤ s) (by omega : (s : Int) ≤ ((c : Nat) : Int)))) fun _ F257 => ?_; clear F255
      refine any_one (i := 2) (by decide +kernel) rfl ?_
      have d258 := (((((((((RDk.len hdc).1.ext hx5).ext hx13).ext hx21).ext hx29).ext hx42).ext hx82).ext hx229).ext hx238)
      refine o_call F257 rfl rfl rfl rfl (rn_call (args1 (F257.get rfl)) rfl (by kernel_rfl)) (records_at (v := (.slice X d.sectors.length x)) d.sectors _ d258 hL (by omega)) ?_
      rintro _ w262 ⟨A259, c260, rfl, hb261, hx263⟩
      refine ⟨_, rfl, ?_⟩; intro a264 F265; clear F257; have z266 := hx263.size
      have hf267 := RBss.clip hb261
      obtain ⟨-, z268, z269⟩ := RBss.at hb261
      have z270 := recs_len d.sectors
      have b271 := (b244.ext hx263)
      have b272 := (b245.ext hx263)
      refine ⟨fun _ _ => ⟨((Ext.refl w237).trans hx263), b271, b272⟩, ?_⟩
      refine any_one (i := 8) (by decide +kernel) rfl ?_
      have d273 := (((((((((hnc.ext hx5).ext hx13).ext hx21).ext hx29).ext hx42).ext hx82).ext hx229).ext hx238).ext hx263)
      refine o_call F265 rfl rfl rfl rfl (rn_call (args2 (F265.get rfl) (F265.get rfl)) rfl (by kernel_rfl)) (samer_at (v := (.slice A259 ((recsOf d.sectors).length) c260)) (u := (.slice A ((s : Int).toNat) c)) (recsOf d.sectors) (R.take ((s : Int).toNat)) _ hf267 (RSl.take d273 (by omega : (s : Int).toNat ≤ R.length) (by omega : (s : Int).toNat ≤ c) (by omega))) ?_
      rintro _ w274 ⟨rfl, hx275⟩
      refine ⟨_, rfl, ?_⟩; intro a276 F277; clear F265; have z278 := hx275.size
      have b279 := (b271.ext hx275)
      have b280 := (b272.ext hx275)
      refine ⟨fun _ _ => ⟨(((Ext.refl w237).trans hx263).trans hx275), b279, b280⟩, ?_⟩
      refine qp 9 (.bool (!(decide ((recsOf d.sectors) = (R.take ((s : Int).toNat)))))) F277 rfl rfl (fun W => (rn_not' (F277.get rfl) rfl)) fun _ F282 => ?_; clear F277
      refine qp 10 (.bool (!(decide ((recsOf d.sectors) = (R.take ((s : Int).toNat)))))) F282 rfl rfl (fun W => (rn_move (F282.get rfl))) fun _ F284 => ?_; clear F282
      by_cases hc285 : (recsOf d.sectors) = (R.take ((s : Int).toNat))
      ·skip
       have heq := hc285
       refine qp 11 (.int .u64 (g : Nat)) F284 rfl (wanted_guard rfl rfl rfl F284 rfl (not_t (decide_eq_true hc285)) rfl) (fun W => (rn_move (F284.get rfl))) fun _ F287 => ?_; clear F284
       refine qp 12 (.bool (decide ((4294967295 : Int) < ((g : Nat) : Int)))) F287 rfl (wanted_guard rfl rfl rfl F287 rfl (not_t (decide_eq_true hc285)) rfl) (fun W => (rn_gtr (F287.get rfl) rfl)) fun _ F289 => ?_; clear F287
       refine qp 13 (.bool (decide ((4294967295 : Int) < ((g : Nat) : Int)))) F289 rfl rfl (fun W => (rn_pickF (c_false F289 rfl (not_t (decide_eq_true hc285))) (F289.get rfl))) fun _ F291 => ?_; clear F289
       refine any_nil (by decide +kernel) ?_
       refine hK236 _ _ ?_
       clear hK236
       have F292 := (((((((((((((((F291.nil.c F291 66 rfl).c F291 9 rfl).c F291 47 rfl).c F291 33 rfl).c F291 28 rfl).c F291 8 rfl).c F291 21 rfl).c F291 7 rfl).c F291 6 rfl).c F291 5 rfl).c F291 4 rfl).c F291 3 rfl).c F291 2 rfl).c F291 1 rfl).c F291 0 rfl)
       clear F291
       by_cases hc293 : (4294967295 : Int) < ((g : Nat) : Int)
       ·skip
        refine wp_cond_true (c_true F292 rfl (decide_eq_true hc293)) ?_
        refine wp_seq_k (fun K294 hK294 => ?_)
        refine wp_region_lit ?_
        refine qv 0 (.agg #[(.int .i64 0), (.slice none 0 0), (.int .i64 0)]) F292 rfl (rn_build (parts0 ) (by kernel_rfl)) fun _ F296 => ?_; clear F292
        refine qv 1 (.agg #[(.slice none 0 0), (.slice none 0 0), (.int .i64 0), (.bool false)]) F296 rfl (rn_build (parts0 ) (by kernel_rfl)) fun _ F298 => ?_; clear F296
        have b302 := (((((((b20.ext hx29).ext hx42).ext hx82).ext hx229).ext hx238).ext hx263).ext hx275)
        refine wpl_op (i := 2) rfl (o_store (cells := [(.int .i64 0), (.slice none 0 0), (.int .i64 0)]) F298 rfl rfl rfl rfl (F298.get rfl) (F298.get rfl) b302 inf29 rfl (by simp [Value.oneCell']) ?_)
        intro w299 b300 hg301; have z303 := hg301.size
        have b307 := (((((((b28.ext hx42).ext hx82).ext hx229).ext hx238).ext hx263).ext hx275).grownN hg301 (by omega))
        refine wpl_op (i := 3) rfl (o_store (cells := [(.slice none 0 0), (.slice none 0 0), (.int .i64 0), (.bool false)]) F298 rfl rfl rfl rfl (F298.get rfl) (F298.get rfl) b307 inf25 rfl (by simp [Value.oneCell']) ?_)
        intro w304 b305 hg306; have z308 := hg306.size
        refine qv 4 (.int .i64 390) F298 rfl (rn_assign rfl) fun _ F310 => ?_; clear F298
        refine wpList_nil ?_
        refine hK294 _ _ ?_
        clear hK294
        refine wp_ret ?_
        refine ret_then ?_
        have b311 := (b300.grownN hg306 (by omega))
        refine retCC1 F310 rfl rfl rfl rfl b311 Try.underlying29 rfl inf29 b305 Try.underlying25 rfl inf25 ?_
        exact lsync_err (sync_5 hlc hmn hop (.inr (by omega))) (((((((((((((Ext.refl w).trans hx5).trans hx13).trans hx21).trans hx29).trans hx42).trans hx82).trans hx229).trans hx238).trans hx263).trans hx275).grownN hg301 (by omega)).grownN hg306 (by omega))
       ·skip
        have hgo : Goes ⟨m, R, s⟩ d := ⟨hlc, hmn, hop, heq, by omega⟩
        obtain ⟨hro1, hro2⟩ := hgo.room hu
        refine wp_cond_false (c_false F292 rfl (decide_eq_false hc293)) ?_
        refine wp_skip ?_
        refine hK235 _ _ ?_
        clear hK235
        refine wp_seq_k (fun K312 hK312 => ?_)
        refine wp_seq_k (fun K313 hK313 => ?_)
        refine wp_region_lit ?_
        refine qv 0 (.pointer (some ⟨g2, 2, none⟩)) F292 rfl (rn_field Try.underlying29 rfl (by kernel_rfl) (F292.get rfl) rfl) fun _ F315 => ?_; clear F292
        refine qv 1 (.int .i64 s) F315 rfl (rn_load (isAgg_no Try.underlying3 rfl) (F315.get rfl) (b280.rule.1 2)) fun _ F317 => ?_; clear F315
        refine qv 2 (.pointer (some ⟨g2, 1, none⟩)) F317 rfl (rn_field Try.underlying29 rfl (by kernel_rfl) (F317.get rfl) rfl) fun _ F319 => ?_; clear F317
        refine qv 3 (.slice A R.length c) F319 rfl (rn_load (isAgg_no Try.underlying22 rfl) (F319.get rfl) (b280.rule.1 1)) fun _ F321 => ?_; clear F319
        refine qv 4 (.int .i64 (R.length : Nat)) F321 rfl (rn_len_slice Try.underlying22 (F321.get rfl)) fun _ F323 => ?_; clear F321
        refine qv 5 (.bool (decide ((s : Int) = ((R.length : Nat) : Int)))) F323 rfl (rn_eql (F323.get rfl) (F323.get rfl)) fun _ F325 => ?_; clear F323
        refine wpList_nil ?_
        refine hK313 _ _ ?_
        clear hK313
        have F326 := ((((((((((((((((F325.nil.c F325 74 rfl).c F325 66 rfl).c F325 9 rfl).c F325 47 rfl).c F325 33 rfl).c F325 28 rfl).c F325 8 rfl).c F325 21 rfl).c F325 7 rfl).c F325 6 rfl).c F325 5 rfl).c F325 4 rfl).c F325 3 rfl).c F325 2 rfl).c F325 1 rfl).c F325 0 rfl)
        clear F325
        by_cases hc327 : (s : Int) = ((R.length : Nat) : Int)
        ·skip
         have hsl : s = (R.length : Nat) := by omega
         refine wp_cond_true (c_true F326 rfl (decide_eq_true hc327)) ?_
         refine wp_seq_k (fun K328 hK328 => ?_)
         have hx330 : ∃ W, w274.drew = W ∧ Ext w274 W := ⟨_, rfl, (Ext.refl _).drew⟩
         obtain ⟨w329, e331, hx330⟩ := hx330
         have z332 := hx330.size
         refine anyg_start (fun W => Ext w329 W ∧ Blk W g2 29 [(.int .i64 m), (.slice A R.length c), (.int .i64 s)] ∧ Blk W g10 25 [(.slice X d.sectors.length x), (.slice Y d.pending.length y), (.int .i64 d.left), (.bool d.stopped)] ∧ Blk W g18 29 [(.int .i64 0), (.slice none 0 0), (.int .i64 0)] ∧ Blk W g26 25 [(.slice none 0 0), (.slice none 0 0), (.int .i64 0), (.bool false)]) (fun i => i == 2 || i == 3) (fun W => Blk W g2 29 [(.int .i64 m), (.slice A R.length c), (.int .i64 s)] ∧ Blk W g10 25 [(.slice X d.sectors.length x), (.slice Y d.pending.length y), (.int .i64 d.left), (.bool d.stopped)]) 5 #[false, false, false, false, false] rfl rfl rfl ?_
         rw [e331]; clear e331
         have b334 := (b280.ext hx330)
         have b335 := (b279.ext hx330)
         have b336 := ((((((((b20.ext hx29).ext hx42).ext hx82).ext hx229).ext hx238).ext hx263).ext hx275).ext hx330)
         have b337 := (((((((b28.ext hx42).ext hx82).ext hx229).ext hx238).ext hx263).ext hx275).ext hx330)
         have hS333 : Ext w329 w329 ∧ Blk w329 g2 29 [(.int .i64 m), (.slice A R.length c), (.int .i64 s)] ∧ Blk w329 g10 25 [(.slice X d.sectors.length x), (.slice Y d.pending.length y), (.int .i64 d.left), (.bool d.stopped)] ∧ Blk w329 g18 29 [(.int .i64 0), (.slice none 0 0), (.int .i64 0)] ∧ Blk w329 g26 25 [(.slice none 0 0), (.slice none 0 0), (.int .i64 0), (.bool false)] := ⟨(Ext.refl w329), b334, b335, b336, b337⟩
         refine gs 0 (.agg #[(.int .i64 m), (.slice A R.length c), (.int .i64 s)]) F326 rfl rfl hS333 (fun W hW => (rn_loadBlk (F326.get rfl) hW.2.1 Try.underlying29 rfl inf29)) fun _ F339 => ?_; clear F326
         have hS340 : Blk w329 g2 29 [(.int .i64 m), (.slice A R.length c), (.int .i64 s)] ∧ Blk w329 g10 25 [(.slice X d.sectors.length x), (.slice Y d.pending.length y), (.int .i64 d.left), (.bool d.stopped)] := ⟨b334, b335⟩
         refine anyg_val2 (i := 1) (v := (.agg #[(.slice X d.sectors.length x), (.slice Y d.pending.length y), (.int .i64 d.left), (.bool d.stopped)])) F339 (by decide +kernel) (by decide +kernel) rfl rfl rfl rfl (fun _ _ _ _ h => h) rfl hS340 (fun W hW => (rn_loadBlk (F339.get rfl) hW.2 Try.underlying25 rfl inf25)) ?_
         intro a341 F342; clear F339
         refine anyg_one (i := 2) (by decide +kernel) rfl ?_
         refine o_store (cells := [(.int .i64 m), (.slice A R.length c), (.int .i64 s)]) F342 rfl rfl rfl rfl (F342.get rfl) (F342.get rfl) b336 inf29 rfl (by simp [Value.oneCell']) ?_
         intro w343 b344 hg345; have z346 := hg345.size
         have b347 := (b334.grownN hg345 (by omega))
         have b348 := (b335.grownN hg345 (by omega))
         refine ⟨⟨fun h => absurd h (by decide), fun _ => ⟨b347, b348⟩⟩, ?_⟩
         refine anyg_one (i := 3) (by decide +kernel) rfl ?_
         have b352 := (b337.grownN hg345 (by omega))
         refine o_store (cells := [(.slice X d.sectors.length x), (.slice Y d.pending.length y), (.int .i64 d.left), (.bool d.stopped)]) F342 rfl rfl rfl rfl (F342.get rfl) (F342.get rfl) b352 inf25 rfl (by simp [Value.oneCell']) ?_
         intro w349 b350 hg351; have z353 := hg351.size
         have b354 := (b347.grownN hg351 (by omega))
         have b355 := (b348.grownN hg351 (by omega))
         refine ⟨⟨fun h => absurd h (by decide), fun _ => ⟨b354, b355⟩⟩, ?_⟩
         refine gp 4 (.int .i64 0) F342 rfl rfl (fun W => (rn_assign rfl)) fun _ F357 => ?_; clear F342
         refine anyg_nil (by decide +kernel) ?_
         refine hK328 _ _ ?_
         clear hK328
         refine wp_ret ?_
         refine ret_then ?_
         have b358 := (b344.grownN hg351 (by omega))
         refine retCC1 F357 rfl rfl rfl rfl b358 Try.underlying29 rfl inf29 b350 Try.underlying25 rfl inf25 ?_
         have d359 := (hnc.pres ((((((((((((((Pres.refl w).ext hx5).ext hx13).ext hx21).ext hx29).ext hx42).ext hx82).ext hx229).ext hx238).ext hx263).ext hx275).ext hx330).grownN hg345 (fun h => by simp only [Clip] at h; omega)).grownN hg351 (fun h => by simp only [Clip] at h; omega)))
         have d360 := (hdc.pres ((((((((((((((Pres.refl w).ext hx5).ext hx13).ext hx21).ext hx29).ext hx42).ext hx82).ext hx229).ext hx238).ext hx263).ext hx275).ext hx330).grownN hg345 (fun h => by simp only [Clip] at h; omega)).grownN hg351 (fun h => by simp only [Clip] at h; omega)))
         exact lsync_fin (sync_6 hgo hsl) d359 (fun b hb => .inl hb.1) d360 (fun b hb => .inl hb.1) ((((((((((((((Ext.refl w).trans hx5).trans hx13).trans hx21).trans hx29).trans hx42).trans hx82).trans hx229).trans hx238).trans hx263).trans hx275).trans hx330).grownN hg345 (by omega)).grownN hg351 (by omega))
        ·skip
         have hsl : s ≠ (R.length : Nat) := by omega
         refine wp_cond_false (c_false F326 rfl (decide_eq_false hc327)) ?_
         refine wp_skip ?_
         refine hK312 _ _ ?_
         clear hK312
         refine wp_seq_k (fun K361 hK361 => ?_)
         refine wp_region_lit ?_
         refine qv 0 (.pointer (some ⟨g2, 1, none⟩)) F326 rfl (rn_field Try.underlying29 rfl (by kernel_rfl) (F326.get rfl) rfl) fun _ F363 => ?_; clear F326
         refine qv 1 (.slice A R.length c) F363 rfl (rn_load (isAgg_no Try.underlying22 rfl) (F363.get rfl) (b280.rule.1 1)) fun _ F365 => ?_; clear F363
         refine qv 2 (.pointer (some ⟨g2, 2, none⟩)) F365 rfl (rn_field Try.underlying29 rfl (by kernel_rfl) (F365.get rfl) rfl) fun _ F367 => ?_; clear F365
         refine qv 3 (.int .i64 s) F367 rfl (rn_load (isAgg_no Try.underlying3 rfl) (F367.get rfl) (b280.rule.1 2)) fun _ F369 => ?_; clear F367
         refine qv 4 (.slice A ((s : Int).toNat) c) F369 rfl (rn_sliceHi Try.underlying22 inf35 (F369.get rfl) (F369.get rfl) (by omega : (0 : Int) ≤ s) (by omega : (s : Int) ≤ ((c : Nat) : Int))) fun _ F371 => ?_; clear F369
         have d372 := ((((((((((hnc.ext hx5).ext hx13).ext hx21).ext hx29).ext hx42).ext hx82).ext hx229).ext hx238).ext hx263).ext hx275)
         refine wpl_op (i := 5) rfl (o_call F371 rfl rfl rfl rfl (rn_call (args1 (F371.get rfl)) rfl (by kernel_rfl)) (rused_at (v := (.slice A ((s : Int).toNat) c)) (R.take ((s : Int).toNat)) _ (RSl.take d372 (by omega : (s : Int).toNat ≤ R.length) (by omega : (s : Int).toNat ≤ c) (by omega)) (fun x hx => hb x (List.mem_of_mem_take hx))) ?_)
         rintro _ w373 ⟨rfl, hx374⟩
         refine ⟨_, rfl, ?_⟩; intro a375 F376; clear F371; have z377 := hx374.size
         refine qv 6 (.int .i64 (usedW (R.take ((s : Int).toNat)))) F376 rfl (rn_assign (F376.get rfl)) fun _ F379 => ?_; clear F376
         refine wpList_nil ?_
         refine hK361 _ _ ?_
         clear hK361
         have F380 := (((((((((((((((((F379.nil.c F379 10 rfl).c F379 74 rfl).c F379 66 rfl).c F379 9 rfl).c F379 47 rfl).c F379 33 rfl).c F379 28 rfl).c F379 8 rfl).c F379 21 rfl).c F379 7 rfl).c F379 6 rfl).c F379 5 rfl).c F379 4 rfl).c F379 3 rfl).c F379 2 rfl).c F379 1 rfl).c F379 0 rfl)
         clear F379
         refine wp_seq_k (fun K381 hK381 => ?_)
         refine wp_seq_k (fun K382 hK382 => ?_)
         obtain ⟨a0, ha0⟩ : ∃ a0, usedL (R.take (s : Int).toNat) = a0 := ⟨_, rfl⟩
         have hus : usedW (R.take ((s : Int).toNat)) = ((a0 : Nat) : Int) := by rw [← ha0]; exact usedW_small (by have := usedL_take_le R (s : Int).toNat; omega)
         rw [hus] at F380
         obtain ⟨ns, hns⟩ : ∃ ns, R.drop (s : Int).toNat = ns := ⟨_, rfl⟩
         have hnl := congrArg List.length hns; rw [List.length_drop] at hnl
         obtain ⟨n0, hn0⟩ : ∃ n0, (s : Int).toNat = n0 := ⟨_, rfl⟩
         have hro3 : a0 + usedL ns ≤ d.sectors.length := by rw [← ha0, ← hns]; exact hro1
         refine wp_region_lit ?_
         refine qv 0 (.pointer (some ⟨g2, 2, none⟩)) F380 rfl (rn_field Try.underlying29 rfl (by kernel_rfl) (F380.get rfl) rfl) fun _ F384 => ?_; clear F380
         have b385 := (b280.ext hx374)
         refine qv 1 (.int .i64 s) F384 rfl (rn_load (isAgg_no Try.underlying3 rfl) (F384.get rfl) (b385.rule.1 2)) fun _ F387 => ?_; clear F384
         refine qv 2 (.int .i64 s) F387 rfl (rn_assign (F387.get rfl)) fun _ F389 => ?_; clear F387
         refine wpList_nil ?_
         refine hK382 _ _ ?_
         clear hK382
         refine wp_block ?_
         have d390 := (((((((((((hdc.ext hx5).ext hx13).ext hx21).ext hx29).ext hx42).ext hx82).ext hx229).ext hx238).ext hx263).ext hx275).ext hx374)
         have b391 := (b279.ext hx374)
         have b392 := ((((((((b20.ext hx29).ext hx42).ext hx82).ext hx229).ext hx238).ext hx263).ext hx275).ext hx374)
         have b393 := (((((((b28.ext hx42).ext hx82).ext hx229).ext hx238).ext hx263).ext hx275).ext hx374)
         refine wp_loop (fun a' W => ∃ (k : Nat) (ss : List (List UInt8)) (xd : Dk) (xA : Option Addr) (xc : Nat) (xB : Option Addr) (xe : Nat), Sl 149 [(0, (.agg #[(.int .i64 m), (.slice A R.length c), (.int .i64 s)])), (1, (.agg #[(.slice X d.sectors.length x), (.slice Y d.pending.length y), (.int .i64 d.left), (.bool d.stopped)])), (2, (.pointer (some ⟨g2, 0, none⟩))), (3, (.pointer (some ⟨g10, 0, none⟩))), (4, (.pointer (some ⟨g18, 0, none⟩))), (5, (.pointer (some ⟨g26, 0, none⟩))), (6, (.int .i64 0)), (7, (.int .i64 ((Lg.mk m R s).check))), (21, (.bool (decide (((Lg.mk m R s).check : Int) ≠ (0 : Int))))), (8, (.int .i64 d.check)), (28, (.bool (decide ((d.check : Int) ≠ (0 : Int))))), (33, (.bool d.stopped)), (47, (.bool (decide ((0 : Int) < ((d.pending.length : Nat) : Int))))), (9, (.int .u64 (g : Nat))), (66, (.bool (decide ((4294967295 : Int) < ((g : Nat) : Int))))), (74, (.bool (decide ((s : Int) = ((R.length : Nat) : Int))))), (10, (.int .i64 (a0 + ss.length : Nat))), (11, (.int .i64 (n0 + k : Nat)))] a' ∧ k ≤ ns.length ∧ ss = allSecs g a0 (ns.take k) ∧ xd = d.wr a0 ss ∧ Ext w W ∧ Blk W g2 29 [(.int .i64 m), (.slice A R.length c), (.int .i64 s)] ∧ Blk W g10 25 [(.slice xA xd.sectors.length xc), (.slice xB xd.pending.length xe), (.int .i64 xd.left), (.bool xd.stopped)] ∧ Blk W g18 29 [(.int .i64 0), (.slice none 0 0), (.int .i64 0)] ∧ Blk W g26 25 [(.slice none 0 0), (.slice none 0 0), (.int .i64 0), (.bool false)] ∧ RDk (Clip (fun b => Fr S w b ∧ b ≠ g2 ∧ b ≠ g10 ∧ b ≠ g18 ∧ b ≠ g26) W) W (.agg #[(.slice xA xd.sectors.length xc), (.slice xB xd.pending.length xe), (.int .i64 xd.left), (.bool xd.stopped)]) xd ∧ w373.heap.size ≤ W.heap.size) (fun a' _ => R.length - (intOf (a'.eval (.tmp 11))).toNat) ⟨0, [], d, X, x, Y, y, ((((((((((((((((((F389.nil.cons (q_get F389 (t := 11) rfl (by first | with_reducible rfl | (congr 1; omega) | (congr 1; simp only [List.length_append, List.length_cons, List.length_nil]; omega) | rfl))).cons (q_get F389 (t := 10) rfl (by first | with_reducible rfl | (congr 1; omega) | (congr 1; simp only [List.length_append, List.length_cons, List.length_nil]; omega) | rfl))).cons (q_get F389 (t := 74) rfl rfl)).cons (q_get F389 (t := 66) rfl rfl)).cons (q_get F389 (t := 9) rfl rfl)).cons (q_get F389 (t := 47) rfl rfl)).cons (q_get F389 (t := 33) rfl rfl)).cons (q_get F389 (t := 28) rfl rfl)).cons (q_get F389 (t := 8) rfl rfl)).cons (q_get F389 (t := 21) rfl rfl)).cons (q_get F389 (t := 7) rfl rfl)).cons (q_get F389 (t := 6) rfl rfl)).cons (q_get F389 (t := 5) rfl rfl)).cons (q_get F389 (t := 4) rfl rfl)).cons (q_get F389 (t := 3) rfl rfl)).cons (q_get F389 (t := 2) rfl rfl)).cons (q_get F389 (t := 1) rfl rfl)).cons (q_get F389 (t := 0) rfl rfl)), (by omega), rfl, (wr_nil hgo a0), ((((((((((((Ext.refl w).trans hx5).trans hx13).trans hx21).trans hx29).trans hx42).trans hx82).trans hx229).trans hx238).trans hx263).trans hx275).trans hx374), b385, b391, b392, b393, (RDk.sub (S := (Clip S w)) d390 (fun b hb => by have h2 := hb.2; exact ⟨⟨.inl hb.1, by omega, by omega, by omega, by omega⟩, by omega⟩)), (Nat.le_refl _)⟩ ?_
         clear F389
         rintro a394 w395 ⟨k, ss, xd, xA, xc, xB, xe, F396, hp398, hp399, hp400, hx397, b401, b402, b403, b404, hf405, hf406⟩
         have hL407 := F396
         have z408 := hx397.size
         have z409 := b401.lt
         have z410 := b402.lt
         have z411 := b403.lt
         have z412 := b404.lt
         have hs128 : ∀ z ∈ ss, z.length = 128 := by rw [hp399]; exact allSecs_128 _ _ _
         refine wp_seq_k (fun K413 hK413 => ?_)
         refine wp_seq_k (fun K414 hK414 => ?_)
         refine wp_region_lit ?_
         refine qv 0 (.int .i64 (n0 + k : Nat)) F396 rfl (rn_move (F396.get rfl)) fun _ F416 => ?_; clear F396
         refine qv 1 (.pointer (some ⟨g2, 1, none⟩)) F416 rfl (rn_field Try.underlying29 rfl (by kernel_rfl) (F416.get rfl) rfl) fun _ F418 => ?_; clear F416
         refine qv 2 (.slice A R.length c) F418 rfl (rn_load (isAgg_no Try.underlying22 rfl) (F418.get rfl) (b401.rule.1 1)) fun _ F420 => ?_; clear F418
         refine qv 3 (.int .i64 (R.length : Nat)) F420 rfl (rn_len_slice Try.underlying22 (F420.get rfl)) fun _ F422 => ?_; clear F420
         refine qv 4 (.bool (decide (((n0 + k : Nat) : Int) < ((R.length : Nat) : Int)))) F422 rfl (rn_lss (F422.get rfl) (F422.get rfl)) fun _ F424 => ?_; clear F422
         refine wpList_nil ?_
         refine hK414 _ _ ?_
         clear hK414
         have F425 := (((((((((((((((((((F424.nil.c F424 89 rfl).c F424 11 rfl).c F424 10 rfl).c F424 74 rfl).c F424 66 rfl).c F424 9 rfl).c F424 47 rfl).c F424 33 rfl).c F424 28 rfl).c F424 8 rfl).c F424 21 rfl).c F424 7 rfl).c F424 6 rfl).c F424 5 rfl).c F424 4 rfl).c F424 3 rfl).c F424 2 rfl).c F424 1 rfl).c F424 0 rfl)
         clear F424
         by_cases hc426 : ((n0 + k : Nat) : Int) < ((R.length : Nat) : Int)
         ·skip
          refine wp_cond_true (c_true F425 rfl (decide_eq_true hc426)) ?_
          refine wp_skip ?_
          refine hK413 _ _ ?_
          clear hK413
          refine wp_seq_k (fun K427 hK427 => ?_)
          refine wp_block ?_
          refine wp_seq_k (fun K428 hK428 => ?_)
          refine wp_region_lit ?_
          refine qv 0 (.pointer (some ⟨g2, 1, none⟩)) F425 rfl (rn_field Try.underlying29 rfl (by kernel_rfl) (F425.get rfl) rfl) fun _ F430 => ?_; clear F425
          refine qv 1 (.slice A R.length c) F430 rfl (rn_load (isAgg_no Try.underlying22 rfl) (F430.get rfl) (b401.rule.1 1)) fun _ F432 => ?_; clear F430
          refine qv 2 (.int .i64 (n0 + k : Nat)) F432 rfl (rn_move (F432.get rfl)) fun _ F434 => ?_; clear F432
          have d448 := (hnc.ext hx397)
          obtain ⟨x435, hi436, hm437⟩ := nth_of_lt R (n0 + k) (by omega)
          obtain ⟨b438, o439, A440, c441, hA442, hl443, hc444, hr445, le446, le447⟩ := RBss.get d448 hi436
          have z449 := hb x435 (List.mem_of_getElem? hi436)
          refine qv 3 (.pointer (some ⟨b438, o439 + (n0 + k), none⟩)) F434 rfl (rn_index1 Try.underlying22 inf35 ((F434.get rfl).trans (by rw [hA442])) (F434.get rfl) (by omega : (0 : Int) ≤ (n0 + k : Nat)) (by omega : ((n0 + k : Nat) : Int) < ((R.length : Nat) : Int))) fun _ F451 => ?_; clear F434
          refine qv 4 (.slice A440 x435.length c441) F451 rfl (rn_load (isAgg_no Try.underlying35 rfl) (F451.get rfl) (Ext.keep (Ext.refl w395) hc444)) fun _ F453 => ?_; clear F451
          refine qv 5 (.slice A440 x435.length c441) F453 rfl (rn_assign (F453.get rfl)) fun _ F455 => ?_; clear F453
          refine wpList_nil ?_
          refine hK428 _ _ ?_
          clear hK428
          have F456 := ((((((((((((((((((((F455.nil.c F455 12 rfl).c F455 89 rfl).c F455 11 rfl).c F455 10 rfl).c F455 74 rfl).c F455 66 rfl).c F455 9 rfl).c F455 47 rfl).c F455 33 rfl).c F455 28 rfl).c F455 8 rfl).c F455 21 rfl).c F455 7 rfl).c F455 6 rfl).c F455 5 rfl).c F455 4 rfl).c F455 3 rfl).c F455 2 rfl).c F455 1 rfl).c F455 0 rfl)
          clear F455
          refine wp_seq_k (fun K457 hK457 => ?_)
          refine wp_region_lit ?_
          refine qv 0 (.slice A440 x435.length c441) F456 rfl (rn_move (F456.get rfl)) fun _ F459 => ?_; clear F456
          refine qv 1 (.int .i64 (x435.length : Nat)) F459 rfl (rn_len_slice Try.underlying35 (F459.get rfl)) fun _ F461 => ?_; clear F459
          refine wpl_op (i := 2) rfl (o_call F461 rfl rfl rfl rfl (rn_call (args1 (F461.get rfl)) rfl (by kernel_rfl)) (rsectors_any x435.length _ (by omega)) ?_)
          rintro _ w462 ⟨rfl, hx463⟩
          refine ⟨_, rfl, ?_⟩; intro a464 F465; clear F461; have z466 := hx463.size
          refine qv 3 (.int .i64 (secs x435.length : Nat)) F465 rfl (rn_assign (F465.get rfl)) fun _ F468 => ?_; clear F465
          refine wpList_nil ?_
          refine hK457 _ _ ?_
          clear hK457
          refine wp_seq_k (fun K469 hK469 => ?_)
          refine wp_region_lit ?_
          refine qv 0 (.int .i64 0) F468 rfl (rn_assign rfl) fun _ F471 => ?_; clear F468
          refine wpList_nil ?_
          refine hK469 _ _ ?_
          clear hK469
          refine wp_block ?_
          have hx472 := get_drop hns hn0 hi436
          have hsr := ss_room hp399 hx472
          have hsx := secs_pos x435.length
          have d473 := (hf405.ext hx463)
          have d474 := ((RBs.fl hr445).ext hx463)
          have b475 := (b401.ext hx463)
          have b476 := (b402.ext hx463)
          have b477 := (b403.ext hx463)
          have b478 := (b404.ext hx463)
          refine wp_loop (fun a' W => ∃ (j : Nat) (ts : List (List UInt8)) (yd : Dk) (yA : Option Addr) (yc : Nat) (yB : Option Addr) (ye : Nat), Sl 149 [(0, (.agg #[(.int .i64 m), (.slice A R.length c), (.int .i64 s)])), (1, (.agg #[(.slice X d.sectors.length x), (.slice Y d.pending.length y), (.int .i64 d.left), (.bool d.stopped)])), (2, (.pointer (some ⟨g2, 0, none⟩))), (3, (.pointer (some ⟨g10, 0, none⟩))), (4, (.pointer (some ⟨g18, 0, none⟩))), (5, (.pointer (some ⟨g26, 0, none⟩))), (6, (.int .i64 0)), (7, (.int .i64 ((Lg.mk m R s).check))), (21, (.bool (decide (((Lg.mk m R s).check : Int) ≠ (0 : Int))))), (8, (.int .i64 d.check)), (28, (.bool (decide ((d.check : Int) ≠ (0 : Int))))), (33, (.bool d.stopped)), (47, (.bool (decide ((0 : Int) < ((d.pending.length : Nat) : Int))))), (9, (.int .u64 (g : Nat))), (66, (.bool (decide ((4294967295 : Int) < ((g : Nat) : Int))))), (74, (.bool (decide ((s : Int) = ((R.length : Nat) : Int))))), (10, (.int .i64 (a0 + ts.length : Nat))), (11, (.int .i64 (n0 + k : Nat))), (89, (.bool (decide (((n0 + k : Nat) : Int) < ((R.length : Nat) : Int))))), (12, (.slice A440 x435.length c441)), (13, (.int .i64 (secs x435.length : Nat))), (14, (.int .i64 (j : Nat)))] a' ∧ j ≤ secs x435.length ∧ ts = ss ++ (pieces g (secs x435.length) (a0 + ss.length) true x435).take j ∧ yd = d.wr a0 ts ∧ Ext w W ∧ Blk W g2 29 [(.int .i64 m), (.slice A R.length c), (.int .i64 s)] ∧ Blk W g10 25 [(.slice yA yd.sectors.length yc), (.slice yB yd.pending.length ye), (.int .i64 yd.left), (.bool yd.stopped)] ∧ Blk W g18 29 [(.int .i64 0), (.slice none 0 0), (.int .i64 0)] ∧ Blk W g26 25 [(.slice none 0 0), (.slice none 0 0), (.int .i64 0), (.bool false)] ∧ Fl (Clip S w) W 1 (.slice A440 x435.length c441) x435.length (byteVals x435) ∧ RDk (Clip (fun b => Fr S w b ∧ b ≠ g2 ∧ b ≠ g10 ∧ b ≠ g18 ∧ b ≠ g26) W) W (.agg #[(.slice yA yd.sectors.length yc), (.slice yB yd.pending.length ye), (.int .i64 yd.left), (.bool yd.stopped)]) yd ∧ w462.heap.size ≤ W.heap.size) (fun a' _ => secs x435.length - (intOf (a'.eval (.tmp 14))).toNat) ⟨0, ss, xd, xA, xc, xB, xe, ((((((((((((((((((((((F471.nil.cons (q_get F471 (t := 14) rfl (by first | with_reducible rfl | (congr 1; omega) | (congr 1; simp only [List.length_append, List.length_cons, List.length_nil]; omega) | rfl))).cons (q_get F471 (t := 13) rfl rfl)).cons (q_get F471 (t := 12) rfl rfl)).cons (q_get F471 (t := 89) rfl rfl)).cons (q_get F471 (t := 11) rfl rfl)).cons (q_get F471 (t := 10) rfl (by first | with_reducible rfl | (congr 1; omega) | (congr 1; simp only [List.length_append, List.length_cons, List.length_nil]; omega) | rfl))).cons (q_get F471 (t := 74) rfl rfl)).cons (q_get F471 (t := 66) rfl rfl)).cons (q_get F471 (t := 9) rfl rfl)).cons (q_get F471 (t := 47) rfl rfl)).cons (q_get F471 (t := 33) rfl rfl)).cons (q_get F471 (t := 28) rfl rfl)).cons (q_get F471 (t := 8) rfl rfl)).cons (q_get F471 (t := 21) rfl rfl)).cons (q_get F471 (t := 7) rfl rfl)).cons (q_get F471 (t := 6) rfl rfl)).cons (q_get F471 (t := 5) rfl rfl)).cons (q_get F471 (t := 4) rfl rfl)).cons (q_get F471 (t := 3) rfl rfl)).cons (q_get F471 (t := 2) rfl rfl)).cons (q_get F471 (t := 1) rfl rfl)).cons (q_get F471 (t := 0) rfl rfl)), (by omega), (by simp), hp400, (((Ext.refl w).trans hx397).trans hx463), b475, b476, b477, b478, d474, (RDk.sub (S := (Clip (fun b => Fr S w b ∧ b ≠ g2 ∧ b ≠ g10 ∧ b ≠ g18 ∧ b ≠ g26) w395)) d473 (fun b hb => ⟨hb.1, by have := hb.2; omega⟩)), (Nat.le_refl _)⟩ ?_
          clear F471
          rintro a479 w480 ⟨j, ts, yd, yA, yc, yB, ye, F481, hp483, hp484, hp485, hx482, b486, b487, b488, b489, hf490, hf491, hf492⟩
          have hL493 := F481
          have z494 := hx482.size
          have z495 := b486.lt
          have z496 := b487.lt
          have z497 := b488.lt
          have z498 := b489.lt
          have htl := ts_len hp484 (by omega)
          have ht128 := ts_128 hp484 hs128
          refine wp_seq_k (fun K499 hK499 => ?_)
          refine wp_seq_k (fun K500 hK500 => ?_)
          refine wp_region_lit ?_
          refine qv 0 (.int .i64 (j : Nat)) F481 rfl (rn_move (F481.get rfl)) fun _ F502 => ?_; clear F481
          refine qv 1 (.int .i64 (secs x435.length : Nat)) F502 rfl (rn_move (F502.get rfl)) fun _ F504 => ?_; clear F502
          refine qv 2 (.bool (decide (((j : Nat) : Int) < ((secs x435.length : Nat) : Int)))) F504 rfl (rn_lss (F504.get rfl) (F504.get rfl)) fun _ F506 => ?_; clear F504
          refine wpList_nil ?_
          refine hK500 _ _ ?_
          clear hK500
          by_cases hc507 : ((j : Nat) : Int) < ((secs x435.length : Nat) : Int)
          ·skip
           refine wp_cond_true (c_true F506 rfl (decide_eq_true hc507)) ?_
           refine wp_skip ?_
           refine hK499 _ _ ?_
           clear hK499
           refine wp_seq_k (fun K508 hK508 => ?_)
           refine wp_block ?_
           refine wp_seq_k (fun K509 hK509 => ?_)
           have hj112 := secs_lt (n := x435.length) (j := j) (by omega)
           refine wp_region_lit ?_
           refine qv 0 (.slice A440 x435.length c441) F506 rfl (rn_move (F506.get rfl)) fun _ F511 => ?_; clear F506
           refine qv 1 (.int .i64 (j : Nat)) F511 rfl (rn_move (F511.get rfl)) fun _ F513 => ?_; clear F511
           refine qv 2 (.int .i64 (j * 112 : Nat)) F513 rfl (rn_mulN (a := j) (b := 112) (F513.get rfl) rfl (by omega)) fun _ F515 => ?_; clear F513
           refine qv 3 (.slice A440 x435.length c441) F515 rfl (rn_move (F515.get rfl)) fun _ F517 => ?_; clear F515
           refine qv 4 (.int .i64 (x435.length : Nat)) F517 rfl (rn_len_slice Try.underlying35 (F517.get rfl)) fun _ F519 => ?_; clear F517
           refine qv 5 (.int .i64 (j : Nat)) F519 rfl (rn_move (F519.get rfl)) fun _ F521 => ?_; clear F519
           refine qv 6 (.int .i64 (j + 1 : Nat)) F521 rfl (rn_addN (a := j) (b := 1) (F521.get rfl) rfl (by omega)) fun _ F523 => ?_; clear F521
           refine qv 7 (.int .i64 ((j + 1) * 112 : Nat)) F523 rfl (rn_mulN (a := j + 1) (b := 112) (F523.get rfl) rfl (by omega)) fun _ F525 => ?_; clear F523
           refine qv 8 (.int .i64 (min x435.length ((j + 1) * 112) : Nat)) F525 rfl (rn_min2N (a := x435.length) (b := (j + 1) * 112) Try.underlying3 (F525.get rfl) (F525.get rfl)) fun _ F527 => ?_; clear F525
           refine qv 9 (.slice (cutA A440 c441 (j * 112) 1) ((min x435.length ((j + 1) * 112)) - (j * 112)) (c441 - (j * 112))) F527 rfl (rn_cutLH (l := j * 112) (h := min x435.length ((j + 1) * 112)) Try.underlying35 inf5 (F527.get rfl) (F527.get rfl) (F527.get rfl) (by omega) (by omega)) fun _ F529 => ?_; clear F527
           refine qv 10 (.slice (cutA A440 c441 (j * 112) 1) ((min x435.length ((j + 1) * 112)) - (j * 112)) (c441 - (j * 112))) F529 rfl (rn_assign (F529.get rfl)) fun _ F531 => ?_; clear F529
           refine wpList_nil ?_
           refine hK509 _ _ ?_
           clear hK509
           have F532 := ((((((((((((((((((((((((F531.nil.c F531 15 rfl).c F531 102 rfl).c F531 14 rfl).c F531 13 rfl).c F531 12 rfl).c F531 89 rfl).c F531 11 rfl).c F531 10 rfl).c F531 74 rfl).c F531 66 rfl).c F531 9 rfl).c F531 47 rfl).c F531 33 rfl).c F531 28 rfl).c F531 8 rfl).c F531 21 rfl).c F531 7 rfl).c F531 6 rfl).c F531 5 rfl).c F531 4 rfl).c F531 3 rfl).c F531 2 rfl).c F531 1 rfl).c F531 0 rfl)
           clear F531
           refine wp_seq_k (fun K533 hK533 => ?_)
           have hx535 : ∃ W, w480.drew = W ∧ Ext w480 W := ⟨_, rfl, (Ext.refl _).drew⟩
           obtain ⟨w534, e536, hx535⟩ := hx535
           have z537 := hx535.size
           refine any_start (fun W => Ext w534 W ∧ Blk W g10 25 [(.slice yA yd.sectors.length yc), (.slice yB yd.pending.length ye), (.int .i64 yd.left), (.bool yd.stopped)]) (fun i => i == 16) 17 #[false, false, false, false, false, false, false, false, false, false, false, false, false, false, false, false, false] rfl rfl rfl ?_
           rw [e536]; clear e536
           have b539 := (b487.ext hx535)
           have hS538 : Ext w534 w534 ∧ Blk w534 g10 25 [(.slice yA yd.sectors.length yc), (.slice yB yd.pending.length ye), (.int .i64 yd.left), (.bool yd.stopped)] := ⟨(Ext.refl w534), b539⟩
           refine qs 0 (.agg #[(.slice yA yd.sectors.length yc), (.slice yB yd.pending.length ye), (.int .i64 yd.left), (.bool yd.stopped)]) F532 rfl rfl hS538 (fun W hW => (rn_loadBlk (F532.get rfl) hW.2 Try.underlying25 rfl inf25)) fun _ F541 => ?_; clear F532
           refine qp 1 (.int .i64 (a0 + ts.length : Nat)) F541 rfl rfl (fun W => (rn_move (F541.get rfl))) fun _ F543 => ?_; clear F541
           refine qp 2 (.int .u64 (g : Nat)) F543 rfl rfl (fun W => (rn_move (F543.get rfl))) fun _ F545 => ?_; clear F543
           refine qp 3 (.int .i64 (a0 + ts.length : Nat)) F545 rfl rfl (fun W => (rn_move (F545.get rfl))) fun _ F547 => ?_; clear F545
           refine qp 4 (.int .i64 (j : Nat)) F547 rfl rfl (fun W => (rn_move (F547.get rfl))) fun _ F549 => ?_; clear F547
           refine qp 5 (.bool (decide (((j : Nat) : Int) = (0 : Int)))) F549 rfl rfl (fun W => (rn_eql (F549.get rfl) rfl)) fun _ F551 => ?_; clear F549
           refine qp 6 (.int .i64 (j : Nat)) F551 rfl rfl (fun W => (rn_move (F551.get rfl))) fun _ F553 => ?_; clear F551
           refine qp 7 (.int .i64 (secs x435.length : Nat)) F553 rfl rfl (fun W => (rn_move (F553.get rfl))) fun _ F555 => ?_; clear F553
           refine qp 8 (.int .i64 ((secs x435.length) - 1 : Nat)) F555 rfl rfl (fun W => (rn_subN (a := secs x435.length) (b := 1) (F555.get rfl) rfl (by omega) (by omega))) fun _ F557 => ?_; clear F555
           refine qp 9 (.bool (decide (((j : Nat) : Int) = (((secs x435.length) - 1 : Nat) : Int)))) F557 rfl rfl (fun W => (rn_eql (F557.get rfl) (F557.get rfl))) fun _ F559 => ?_; clear F557
           refine qp 10 (.slice (cutA A440 c441 (j * 112) 1) ((min x435.length ((j + 1) * 112)) - (j * 112)) (c441 - (j * 112))) F559 rfl rfl (fun W => (rn_move (F559.get rfl))) fun _ F561 => ?_; clear F559
           refine any_one (i := 11) (by decide +kernel) rfl ?_
           have d562 := (hf490.ext hx535)
           refine o_call F561 rfl rfl rfl rfl (rn_call (args5 (F561.get rfl) (F561.get rfl) (F561.get rfl) (F561.get rfl) (F561.get rfl)) rfl (by kernel_rfl)) (sector_at (v := (.slice (cutA A440 c441 (j * 112) 1) ((min x435.length ((j + 1) * 112)) - (j * 112)) (c441 - (j * 112)))) (m := (min x435.length ((j + 1) * 112)) - (j * 112)) g (a0 + ts.length) (decide (((j : Nat) : Int) = (0 : Int))) (decide (((j : Nat) : Int) = (((secs x435.length) - 1 : Nat) : Int))) ((x435.drop (j * 112)).take ((min x435.length ((j + 1) * 112)) - (j * 112))) _ (Fl.cutmid (l := j * 112) (h := min x435.length ((j + 1) * 112)) d562 (by omega) (by omega)) (by omega) (by omega) (by omega)) ?_
           rintro _ w566 ⟨A563, c564, rfl, hf565, hx567⟩
           refine ⟨_, rfl, ?_⟩; intro a568 F569; clear F561; have z570 := hx567.size
           have hf571 : Fl (Clip (fun b => w534.heap.size ≤ b) w566) w566 1 (.slice A563 128 c564) 128 (byteVals (encL g (a0 + ts.length) (kindOf (decide (((j : Nat) : Int) = (0 : Int))) (decide (((j : Nat) : Int) = (((secs x435.length) - 1 : Nat) : Int)))) ((x435.drop (j * 112)).take ((min x435.length ((j + 1) * 112)) - (j * 112))))) := hf565.clip
           have b572 := (b539.ext hx567)
           refine ⟨fun _ _ => ⟨((Ext.refl w534).trans hx567), b572⟩, ?_⟩
           refine any_one (i := 12) (by decide +kernel) rfl ?_
           have d573 := ((hf491.ext hx535).ext hx567)
           have hf574 := hf571
           have he575 : yd.write ((a0 + ts.length : Nat) : Int) (encL g (a0 + ts.length) (kindOf (decide (((j : Nat) : Int) = (0 : Int))) (decide (((j : Nat) : Int) = (((secs x435.length) - 1 : Nat) : Int)))) ((x435.drop (j * 112)).take ((min x435.length ((j + 1) * 112)) - (j * 112)))) = (d.wr a0 (ts ++ [encL g (a0 + ts.length) (kindOf (decide (((j : Nat) : Int) = (0 : Int))) (decide (((j : Nat) : Int) = (((secs x435.length) - 1 : Nat) : Int)))) ((x435.drop (j * 112)).take ((min x435.length ((j + 1) * 112)) - (j * 112)))]), 0) := by rw [hp485]; exact wr_write hgo (by show a0 + ts.length < d.sectors.length; omega) ht128 (encL_len (by rw [List.length_take]; omega))
           refine o_call F569 rfl rfl rfl rfl (rn_call (args3 (F569.get rfl) (F569.get rfl) (F569.get rfl)) rfl (by kernel_rfl)) (calls_conv (rwrite_any (S := (fun b => (Clip (fun b => Fr S w b ∧ b ≠ g2 ∧ b ≠ g10 ∧ b ≠ g18 ∧ b ≠ g26) w480) b ∨ (Clip (fun b => w534.heap.size ≤ b) w566) b)) _ _ yd _ (encL g (a0 + ts.length) (kindOf (decide (((j : Nat) : Int) = (0 : Int))) (decide (((j : Nat) : Int) = (((secs x435.length) - 1 : Nat) : Int)))) ((x435.drop (j * 112)).take ((min x435.length ((j + 1) * 112)) - (j * 112)))) _ (d573.sub (fun _ => Or.inl)) ((Fl.rbs hf574).sub (fun _ => Or.inr))) (congrArg Prod.fst he575) (congrArg Prod.snd he575)) ?_
           rintro _ w582 ⟨v581, rfl, hd580, hx583⟩
           obtain ⟨A576, c577, B578, e579, rfl, -, -⟩ := hd580.form
           have hd580 := hd580.clip
           refine ⟨_, rfl, ?_⟩; intro a584 F585; clear F569; have z586 := hx583.size
           have b587 := (b572.ext hx583)
           refine ⟨fun _ _ => ⟨(((Ext.refl w534).trans hx567).trans hx583), b587⟩, ?_⟩
           refine qp 13 (.tuple #[(.agg #[(.slice A576 ((d.wr a0 (ts ++ [encL g (a0 + ts.length) (kindOf (decide (((j : Nat) : Int) = (0 : Int))) (decide (((j : Nat) : Int) = (((secs x435.length) - 1 : Nat) : Int)))) ((x435.drop (j * 112)).take ((min x435.length ((j + 1) * 112)) - (j * 112)))])).sectors.length) c577), (.slice B578 ((d.wr a0 (ts ++ [encL g (a0 + ts.length) (kindOf (decide (((j : Nat) : Int) = (0 : Int))) (decide (((j : Nat) : Int) = (((secs x435.length) - 1 : Nat) : Int)))) ((x435.drop (j * 112)).take ((min x435.length ((j + 1) * 112)) - (j * 112)))])).pending.length) e579), (.int .i64 ((d.wr a0 (ts ++ [encL g (a0 + ts.length) (kindOf (decide (((j : Nat) : Int) = (0 : Int))) (decide (((j : Nat) : Int) = (((secs x435.length) - 1 : Nat) : Int)))) ((x435.drop (j * 112)).take ((min x435.length ((j + 1) * 112)) - (j * 112)))])).left)), (.bool ((d.wr a0 (ts ++ [encL g (a0 + ts.length) (kindOf (decide (((j : Nat) : Int) = (0 : Int))) (decide (((j : Nat) : Int) = (((secs x435.length) - 1 : Nat) : Int)))) ((x435.drop (j * 112)).take ((min x435.length ((j + 1) * 112)) - (j * 112)))])).stopped))]), (.int .i64 0)]) F585 rfl rfl (fun W => (rn_move (F585.get rfl))) fun _ F589 => ?_; clear F585
           refine qp 14 (.agg #[(.slice A576 ((d.wr a0 (ts ++ [encL g (a0 + ts.length) (kindOf (decide (((j : Nat) : Int) = (0 : Int))) (decide (((j : Nat) : Int) = (((secs x435.length) - 1 : Nat) : Int)))) ((x435.drop (j * 112)).take ((min x435.length ((j + 1) * 112)) - (j * 112)))])).sectors.length) c577), (.slice B578 ((d.wr a0 (ts ++ [encL g (a0 + ts.length) (kindOf (decide (((j : Nat) : Int) = (0 : Int))) (decide (((j : Nat) : Int) = (((secs x435.length) - 1 : Nat) : Int)))) ((x435.drop (j * 112)).take ((min x435.length ((j + 1) * 112)) - (j * 112)))])).pending.length) e579), (.int .i64 ((d.wr a0 (ts ++ [encL g (a0 + ts.length) (kindOf (decide (((j : Nat) : Int) = (0 : Int))) (decide (((j : Nat) : Int) = (((secs x435.length) - 1 : Nat) : Int)))) ((x435.drop (j * 112)).take ((min x435.length ((j + 1) * 112)) - (j * 112)))])).left)), (.bool ((d.wr a0 (ts ++ [encL g (a0 + ts.length) (kindOf (decide (((j : Nat) : Int) = (0 : Int))) (decide (((j : Nat) : Int) = (((secs x435.length) - 1 : Nat) : Int)))) ((x435.drop (j * 112)).take ((min x435.length ((j + 1) * 112)) - (j * 112)))])).stopped))]) F589 rfl rfl (fun W => (rn_extract (F589.get rfl) rfl)) fun _ F591 => ?_; clear F589
           refine qp 15 (.int .i64 0) F591 rfl rfl (fun W => (rn_extract (F591.get rfl) rfl)) fun _ F593 => ?_; clear F591
           refine any_one (i := 16) (by decide +kernel) rfl ?_
           refine o_store (cells := [(.slice A576 ((d.wr a0 (ts ++ [encL g (a0 + ts.length) (kindOf (decide (((j : Nat) : Int) = (0 : Int))) (decide (((j : Nat) : Int) = (((secs x435.length) - 1 : Nat) : Int)))) ((x435.drop (j * 112)).take ((min x435.length ((j + 1) * 112)) - (j * 112)))])).sectors.length) c577), (.slice B578 ((d.wr a0 (ts ++ [encL g (a0 + ts.length) (kindOf (decide (((j : Nat) : Int) = (0 : Int))) (decide (((j : Nat) : Int) = (((secs x435.length) - 1 : Nat) : Int)))) ((x435.drop (j * 112)).take ((min x435.length ((j + 1) * 112)) - (j * 112)))])).pending.length) e579), (.int .i64 ((d.wr a0 (ts ++ [encL g (a0 + ts.length) (kindOf (decide (((j : Nat) : Int) = (0 : Int))) (decide (((j : Nat) : Int) = (((secs x435.length) - 1 : Nat) : Int)))) ((x435.drop (j * 112)).take ((min x435.length ((j + 1) * 112)) - (j * 112)))])).left)), (.bool ((d.wr a0 (ts ++ [encL g (a0 + ts.length) (kindOf (decide (((j : Nat) : Int) = (0 : Int))) (decide (((j : Nat) : Int) = (((secs x435.length) - 1 : Nat) : Int)))) ((x435.drop (j * 112)).take ((min x435.length ((j + 1) * 112)) - (j * 112)))])).stopped))]) F593 rfl rfl rfl rfl (F593.get rfl) (F593.get rfl) b587 inf25 rfl (by simp [Value.oneCell']) ?_
           intro w594 b595 hg596; have z597 := hg596.size
           refine ⟨fun h => absurd h (by decide), ?_⟩
           refine any_nil (by decide +kernel) ?_
           refine hK533 _ _ ?_
           clear hK533
           have F598 := ((((((((((((((((((((((((F593.nil.c F593 15 rfl).c F593 102 rfl).c F593 14 rfl).c F593 13 rfl).c F593 12 rfl).c F593 89 rfl).c F593 11 rfl).c F593 10 rfl).c F593 74 rfl).c F593 66 rfl).c F593 9 rfl).c F593 47 rfl).c F593 33 rfl).c F593 28 rfl).c F593 8 rfl).c F593 21 rfl).c F593 7 rfl).c F593 6 rfl).c F593 5 rfl).c F593 4 rfl).c F593 3 rfl).c F593 2 rfl).c F593 1 rfl).c F593 0 rfl)
           clear F593
           refine wp_region_lit ?_
           refine qv 0 (.int .i64 (a0 + ts.length : Nat)) F598 rfl (rn_move (F598.get rfl)) fun _ F600 => ?_; clear F598
           refine qv 1 (.int .i64 ((a0 + ts.length) + 1 : Nat)) F600 rfl (rn_addN (a := a0 + ts.length) (b := 1) (F600.get rfl) rfl (by omega)) fun _ F602 => ?_; clear F600
           refine qv 2 (.int .i64 ((a0 + ts.length) + 1 : Nat)) F602 rfl (rn_assign (F602.get rfl)) fun _ F604 => ?_; clear F602
           refine wpList_nil ?_
           refine hK508 _ _ ?_
           clear hK508
           refine wp_region_lit ?_
           refine qv 0 (.int .i64 (j : Nat)) F604 rfl (rn_move (F604.get rfl)) fun _ F606 => ?_; clear F604
           refine qv 1 (.int .i64 (j + 1 : Nat)) F606 rfl (rn_addN (a := j) (b := 1) (F606.get rfl) rfl (by omega)) fun _ F608 => ?_; clear F606
           refine qv 2 (.int .i64 (j + 1 : Nat)) F608 rfl (rn_assign (F608.get rfl)) fun _ F610 => ?_; clear F608
           refine wpList_nil ?_
           have d611 := (hd580.pres ((Pres.refl w582).grownN hg596 (fun h => by first | (simp only [Clip, ne_eq, not_true_eq_false, and_false, false_and] at h; done) | (have h2 := h.2; omega) | (rcases h.1 with h | h; (focus (first | (simp only [Clip, ne_eq, not_true_eq_false, and_false, false_and] at h; done) | (rcases h with h | h; (focus (simp only [Clip, ne_eq, not_true_eq_false, and_false, false_and] at h)); ((try simp only [Clip] at h); omega)))); omega))))
           have d612 := (hf490.pres (((((Pres.refl w480).ext hx535).ext hx567).ext hx583).grownN hg596 (fun h => by simp only [Clip] at h; omega)))
           have b613 := ((((b486.ext hx535).ext hx567).ext hx583).grownN hg596 (by omega))
           have b614 := ((((b488.ext hx535).ext hx567).ext hx583).grownN hg596 (by omega))
           have b615 := ((((b489.ext hx535).ext hx567).ext hx583).grownN hg596 (by omega))
           refine ⟨⟨(j + 1), ts ++ [encL g (a0 + ts.length) (kindOf (decide (((j : Nat) : Int) = (0 : Int))) (decide (((j : Nat) : Int) = (((secs x435.length) - 1 : Nat) : Int)))) ((x435.drop (j * 112)).take ((min x435.length ((j + 1) * 112)) - (j * 112)))], (d.wr a0 (ts ++ [encL g (a0 + ts.length) (kindOf (decide (((j : Nat) : Int) = (0 : Int))) (decide (((j : Nat) : Int) = (((secs x435.length) - 1 : Nat) : Int)))) ((x435.drop (j * 112)).take ((min x435.length ((j + 1) * 112)) - (j * 112)))])), A576, c577, B578, e579, ((((((((((((((((((((((F610.nil.cons (q_get F610 (t := 14) rfl (by first | with_reducible rfl | (congr 1; omega) | (congr 1; simp only [List.length_append, List.length_cons, List.length_nil]; omega) | rfl))).cons (q_get F610 (t := 13) rfl rfl)).cons (q_get F610 (t := 12) rfl rfl)).cons (q_get F610 (t := 89) rfl rfl)).cons (q_get F610 (t := 11) rfl rfl)).cons (q_get F610 (t := 10) rfl (by first | with_reducible rfl | (congr 1; omega) | (congr 1; simp only [List.length_append, List.length_cons, List.length_nil]; omega) | rfl))).cons (q_get F610 (t := 74) rfl rfl)).cons (q_get F610 (t := 66) rfl rfl)).cons (q_get F610 (t := 9) rfl rfl)).cons (q_get F610 (t := 47) rfl rfl)).cons (q_get F610 (t := 33) rfl rfl)).cons (q_get F610 (t := 28) rfl rfl)).cons (q_get F610 (t := 8) rfl rfl)).cons (q_get F610 (t := 21) rfl rfl)).cons (q_get F610 (t := 7) rfl rfl)).cons (q_get F610 (t := 6) rfl rfl)).cons (q_get F610 (t := 5) rfl rfl)).cons (q_get F610 (t := 4) rfl rfl)).cons (q_get F610 (t := 3) rfl rfl)).cons (q_get F610 (t := 2) rfl rfl)).cons (q_get F610 (t := 1) rfl rfl)).cons (q_get F610 (t := 0) rfl rfl)), (by omega), (ts_nextR hp484 (by omega) htl), rfl, ((((((Ext.refl w).trans hx482).trans hx535).trans hx567).trans hx583).grownN hg596 (by omega)), b613, b595, b614, b615, d612, (RDk.sub (S := (Clip (Fr (fun b => (Clip (fun b => Fr S w b ∧ b ≠ g2 ∧ b ≠ g10 ∧ b ≠ g18 ∧ b ≠ g26) w480) b ∨ (Clip (fun b => w534.heap.size ≤ b) w566) b) w566) w582)) d611 (fun b hb => by obtain ⟨hb, hlt⟩ := hb; rcases hb with (hb | hb) | hb; exact ⟨hb.1, by omega⟩; all_goals (try simp only [Clip] at hb); all_goals exact ⟨⟨.inr (by omega), by omega, by omega, by omega, by omega⟩, by omega⟩)), (by omega)⟩, ?_⟩
           rw [F610.get (t := 14) rfl, hL493.get (t := 14) rfl]; simp [intOf] <;> omega
          ·skip
           refine wp_cond_false (c_false F506 rfl (decide_eq_false hc507)) ?_
           refine wp_exit ?_
           refine exit_then ?_
           refine exit_then ?_
           refine exit_here ?_
           refine hK427 _ _ ?_
           clear hK427
           refine wp_region_lit ?_
           refine qv 0 (.int .i64 (n0 + k : Nat)) F506 rfl (rn_move (F506.get rfl)) fun _ F617 => ?_; clear F506
           refine qv 1 (.int .i64 ((n0 + k) + 1 : Nat)) F617 rfl (rn_addN (a := n0 + k) (b := 1) (F617.get rfl) rfl (by omega)) fun _ F619 => ?_; clear F617
           refine qv 2 (.int .i64 ((n0 + k) + 1 : Nat)) F619 rfl (rn_assign (F619.get rfl)) fun _ F621 => ?_; clear F619
           refine wpList_nil ?_
           refine ⟨⟨(k + 1), ts, yd, yA, yc, yB, ye, ((((((((((((((((((F621.nil.cons (q_get F621 (t := 11) rfl (by first | with_reducible rfl | (congr 1; omega) | (congr 1; simp only [List.length_append, List.length_cons, List.length_nil]; omega) | rfl))).cons (q_get F621 (t := 10) rfl (by first | with_reducible rfl | (congr 1; omega) | (congr 1; simp only [List.length_append, List.length_cons, List.length_nil]; omega) | rfl))).cons (q_get F621 (t := 74) rfl rfl)).cons (q_get F621 (t := 66) rfl rfl)).cons (q_get F621 (t := 9) rfl rfl)).cons (q_get F621 (t := 47) rfl rfl)).cons (q_get F621 (t := 33) rfl rfl)).cons (q_get F621 (t := 28) rfl rfl)).cons (q_get F621 (t := 8) rfl rfl)).cons (q_get F621 (t := 21) rfl rfl)).cons (q_get F621 (t := 7) rfl rfl)).cons (q_get F621 (t := 6) rfl rfl)).cons (q_get F621 (t := 5) rfl rfl)).cons (q_get F621 (t := 4) rfl rfl)).cons (q_get F621 (t := 3) rfl rfl)).cons (q_get F621 (t := 2) rfl rfl)).cons (q_get F621 (t := 1) rfl rfl)).cons (q_get F621 (t := 0) rfl rfl)), (by omega), (ss_next hp399 hx472 hp484 (by omega)), hp485, ((Ext.refl w).trans hx482), b486, b487, b488, b489, (RDk.sub (S := (Clip (fun b => Fr S w b ∧ b ≠ g2 ∧ b ≠ g10 ∧ b ≠ g18 ∧ b ≠ g26) w480)) hf491 (fun b hb => ⟨hb.1, by have := hb.2; omega⟩)), (by omega)⟩, ?_⟩
           rw [F621.get (t := 11) rfl, hL407.get (t := 11) rfl]; simp [intOf] <;> omega
         ·skip
          refine wp_cond_false (c_false F425 rfl (decide_eq_false hc426)) ?_
          refine wp_exit ?_
          refine exit_then ?_
          refine exit_then ?_
          refine exit_here ?_
          refine hK381 _ _ ?_
          clear hK381
          refine wp_seq_k (fun K622 hK622 => ?_)
          refine wp_region_lit ?_
          refine qv 0 (.agg #[(.slice xA xd.sectors.length xc), (.slice xB xd.pending.length xe), (.int .i64 xd.left), (.bool xd.stopped)]) F425 rfl (rn_loadBlk (F425.get rfl) b402 Try.underlying25 rfl inf25) fun _ F624 => ?_; clear F425
          refine wpl_op (i := 1) rfl (o_call F624 rfl rfl rfl rfl (rn_call (args1 (F624.get rfl)) rfl (by kernel_rfl)) (rsync_any (S := (Clip (fun b => Fr S w b ∧ b ≠ g2 ∧ b ≠ g10 ∧ b ≠ g18 ∧ b ≠ g26) w395)) _ xd _ hf405) ?_)
          rintro _ w631 ⟨v630, rfl, hd629, hx632⟩
          obtain ⟨A625, c626, B627, e628, rfl, -, -⟩ := hd629.form
          have hd629 := hd629.clip
          refine ⟨_, rfl, ?_⟩; intro a633 F634; clear F624; have z635 := hx632.size
          refine qv 2 (.tuple #[(.agg #[(.slice A625 xd.sync.1.sectors.length c626), (.slice B627 xd.sync.1.pending.length e628), (.int .i64 xd.sync.1.left), (.bool xd.sync.1.stopped)]), (.int .i64 xd.sync.2)]) F634 rfl (rn_move (F634.get rfl)) fun _ F637 => ?_; clear F634
          refine qv 3 (.agg #[(.slice A625 xd.sync.1.sectors.length c626), (.slice B627 xd.sync.1.pending.length e628), (.int .i64 xd.sync.1.left), (.bool xd.sync.1.stopped)]) F637 rfl (rn_extract (F637.get rfl) rfl) fun _ F639 => ?_; clear F637
          refine qv 4 (.int .i64 xd.sync.2) F639 rfl (rn_extract (F639.get rfl) rfl) fun _ F641 => ?_; clear F639
          refine wpl_op (i := 5) rfl (o_new (fun g => (.pointer (some ⟨g, 0, none⟩))) [(.slice none 0 0), (.slice none 0 0), (.int .i64 0), (.bool false)] 25 F641 rfl rfl rfl rfl (by kernel_rfl) ?_)
          intro g642 w643 a648 F649 z646 z647 b644 hx645; clear F641
          refine wpl_op (i := 6) rfl (o_store (cells := [(.slice A625 xd.sync.1.sectors.length c626), (.slice B627 xd.sync.1.pending.length e628), (.int .i64 xd.sync.1.left), (.bool xd.sync.1.stopped)]) F649 rfl rfl rfl rfl (F649.get rfl) (F649.get rfl) b644 inf25 rfl (by simp [Value.oneCell']) ?_)
          intro w650 b651 hg652; have z653 := hg652.size
          refine qv 7 (.int .i64 xd.sync.2) F649 rfl (rn_assign (F649.get rfl)) fun _ F655 => ?_; clear F649
          refine wpList_nil ?_
          refine hK622 _ _ ?_
          clear hK622
          have F656 := (((((((((((((((((((((F655.nil.c F655 17 rfl).c F655 16 rfl).c F655 89 rfl).c F655 11 rfl).c F655 10 rfl).c F655 74 rfl).c F655 66 rfl).c F655 9 rfl).c F655 47 rfl).c F655 33 rfl).c F655 28 rfl).c F655 8 rfl).c F655 21 rfl).c F655 7 rfl).c F655 6 rfl).c F655 5 rfl).c F655 4 rfl).c F655 3 rfl).c F655 2 rfl).c F655 1 rfl).c F655 0 rfl)
          clear F655
          refine wp_seq_k (fun K657 hK657 => ?_)
          refine wp_seq_k (fun K658 hK658 => ?_)
          refine wp_region_lit ?_
          refine qv 0 (.int .i64 xd.sync.2) F656 rfl (rn_move (F656.get rfl)) fun _ F660 => ?_; clear F656
          refine qv 1 (.bool (decide ((xd.sync.2 : Int) ≠ (0 : Int)))) F660 rfl (rn_neq (F660.get rfl) rfl) fun _ F662 => ?_; clear F660
          refine wpList_nil ?_
          refine hK658 _ _ ?_
          clear hK658
          by_cases hc663 : (xd.sync.2 : Int) ≠ (0 : Int)
          ·skip
           have h7 : xd.sync.2 ≠ 0 := by omega
           refine wp_cond_true (c_true F662 rfl (decide_eq_true hc663)) ?_
           refine wp_seq_k (fun K664 hK664 => ?_)
           have hx666 : ∃ W, w650.drew = W ∧ Ext w650 W := ⟨_, rfl, (Ext.refl _).drew⟩
           obtain ⟨w665, e667, hx666⟩ := hx666
           have z668 := hx666.size
           refine anyg_start (fun W => Ext w665 W ∧ Blk W g642 25 [(.slice A625 xd.sync.1.sectors.length c626), (.slice B627 xd.sync.1.pending.length e628), (.int .i64 xd.sync.1.left), (.bool xd.sync.1.stopped)] ∧ Blk W g18 29 [(.int .i64 0), (.slice none 0 0), (.int .i64 0)] ∧ Blk W g26 25 [(.slice none 0 0), (.slice none 0 0), (.int .i64 0), (.bool false)]) (fun i => i == 3 || i == 4) (fun W => Blk W g642 25 [(.slice A625 xd.sync.1.sectors.length c626), (.slice B627 xd.sync.1.pending.length e628), (.int .i64 xd.sync.1.left), (.bool xd.sync.1.stopped)]) 6 #[false, false, false, false, false, false] rfl rfl rfl ?_
           rw [e667]; clear e667
           refine gp 0 (.agg #[(.int .i64 0), (.slice none 0 0), (.int .i64 0)]) F662 rfl rfl (fun W => (rn_build (parts0 ) (by kernel_rfl))) fun _ F670 => ?_; clear F662
           have b672 := (b651.ext hx666)
           have hS671 : Blk w665 g642 25 [(.slice A625 xd.sync.1.sectors.length c626), (.slice B627 xd.sync.1.pending.length e628), (.int .i64 xd.sync.1.left), (.bool xd.sync.1.stopped)] := b672
           refine anyg_val2 (i := 1) (v := (.agg #[(.slice A625 xd.sync.1.sectors.length c626), (.slice B627 xd.sync.1.pending.length e628), (.int .i64 xd.sync.1.left), (.bool xd.sync.1.stopped)])) F670 (by decide +kernel) (by decide +kernel) rfl rfl rfl rfl (fun _ _ _ _ h => h) rfl hS671 (fun W hW => (rn_loadBlk (F670.get rfl) hW Try.underlying25 rfl inf25)) ?_
           intro a673 F674; clear F670
           refine gp 2 (.int .i64 xd.sync.2) F674 rfl rfl (fun W => (rn_move (F674.get rfl))) fun _ F676 => ?_; clear F674
           refine anyg_one (i := 3) (by decide +kernel) rfl ?_
           have b680 := ((((b403.ext hx632).ext hx645).grownN hg652 (by omega)).ext hx666)
           refine o_store (cells := [(.int .i64 0), (.slice none 0 0), (.int .i64 0)]) F676 rfl rfl rfl rfl (F676.get rfl) (F676.get rfl) b680 inf29 rfl (by simp [Value.oneCell']) ?_
           intro w677 b678 hg679; have z681 := hg679.size
           have b682 := (b672.grownN hg679 (by omega))
           refine ⟨⟨fun h => absurd h (by decide), fun _ => b682⟩, ?_⟩
           refine anyg_one (i := 4) (by decide +kernel) rfl ?_
           have b686 := (((((b404.ext hx632).ext hx645).grownN hg652 (by omega)).ext hx666).grownN hg679 (by omega))
           refine o_store (cells := [(.slice A625 xd.sync.1.sectors.length c626), (.slice B627 xd.sync.1.pending.length e628), (.int .i64 xd.sync.1.left), (.bool xd.sync.1.stopped)]) F676 rfl rfl rfl rfl (F676.get rfl) (F676.get rfl) b686 inf25 rfl (by simp [Value.oneCell']) ?_
           intro w683 b684 hg685; have z687 := hg685.size
           have b688 := (b682.grownN hg685 (by omega))
           refine ⟨⟨fun h => absurd h (by decide), fun _ => b688⟩, ?_⟩
           refine gp 5 (.int .i64 xd.sync.2) F676 rfl rfl (fun W => (rn_assign (F676.get rfl))) fun _ F690 => ?_; clear F676
           refine anyg_nil (by decide +kernel) ?_
           refine hK664 _ _ ?_
           clear hK664
           have F691 := ((((((((((((((((((((((F690.nil.c F690 139 rfl).c F690 17 rfl).c F690 16 rfl).c F690 89 rfl).c F690 11 rfl).c F690 10 rfl).c F690 74 rfl).c F690 66 rfl).c F690 9 rfl).c F690 47 rfl).c F690 33 rfl).c F690 28 rfl).c F690 8 rfl).c F690 21 rfl).c F690 7 rfl).c F690 6 rfl).c F690 5 rfl).c F690 4 rfl).c F690 3 rfl).c F690 2 rfl).c F690 1 rfl).c F690 0 rfl)
           clear F690
           refine wp_ret ?_
           refine ret_then ?_
           have b692 := (b678.grownN hg685 (by omega))
           refine retCC1 F691 rfl rfl rfl rfl b692 Try.underlying29 rfl inf29 b684 Try.underlying25 rfl inf25 ?_
           have hall := wr_all (m := m) ha0 hns hgg.symm hp399 (by omega) hp400
           have d693 := (hd629.pres ((((((Pres.refl w631).ext hx645).grownN hg652 (fun h => by first | (simp only [Clip, ne_eq, not_true_eq_false, and_false, false_and] at h; done) | (have h2 := h.2; omega) | (rcases h.1 with h | h; (focus (first | (simp only [Clip, ne_eq, not_true_eq_false, and_false, false_and] at h; done) | (rcases h with h | h; (focus (simp only [Clip, ne_eq, not_true_eq_false, and_false, false_and] at h)); ((try simp only [Clip] at h); omega)))); omega))).ext hx666).grownN hg679 (fun h => by first | (simp only [Clip, ne_eq, not_true_eq_false, and_false, false_and] at h; done) | (have h2 := h.2; omega) | (rcases h.1 with h | h; (focus (first | (simp only [Clip, ne_eq, not_true_eq_false, and_false, false_and] at h; done) | (rcases h with h | h; (focus (simp only [Clip, ne_eq, not_true_eq_false, and_false, false_and] at h)); ((try simp only [Clip] at h); omega)))); omega))).grownN hg685 (fun h => by first | (simp only [Clip, ne_eq, not_true_eq_false, and_false, false_and] at h; done) | (have h2 := h.2; omega) | (rcases h.1 with h | h; (focus (first | (simp only [Clip, ne_eq, not_true_eq_false, and_false, false_and] at h; done) | (rcases h with h | h; (focus (simp only [Clip, ne_eq, not_true_eq_false, and_false, false_and] at h)); ((try simp only [Clip] at h); omega)))); omega))))
           have hsy := sync_7 hgo hsl (by rw [← hall]; exact h7)
           rw [← hall] at hsy
           exact lsync_bad hsy d693 (fun b hb => by rcases hb.1 with h | h; exact h.1.1; exact .inr (by omega)) ((((((((Ext.refl w).trans hx397).trans hx632).trans hx645).grownN hg652 (by omega)).trans hx666).grownN hg679 (by omega)).grownN hg685 (by omega))
          ·skip
           have h7 : xd.sync.2 = 0 := by omega
           refine wp_cond_false (c_false F662 rfl (decide_eq_false hc663)) ?_
           refine wp_skip ?_
           refine hK657 _ _ ?_
           clear hK657
           refine wp_seq_k (fun K694 hK694 => ?_)
           refine wp_region_lit ?_
           refine qv 0 (.pointer (some ⟨g2, 1, none⟩)) F662 rfl (rn_field Try.underlying29 rfl (by kernel_rfl) (F662.get rfl) rfl) fun _ F696 => ?_; clear F662
           have b697 := (((b401.ext hx632).ext hx645).grownN hg652 (by omega))
           refine qv 1 (.slice A R.length c) F696 rfl (rn_load (isAgg_no Try.underlying22 rfl) (F696.get rfl) (b697.rule.1 1)) fun _ F699 => ?_; clear F696
           refine qv 2 (.int .i64 (R.length : Nat)) F699 rfl (rn_len_slice Try.underlying22 (F699.get rfl)) fun _ F701 => ?_; clear F699
           refine qv 3 (.pointer (some ⟨g2, 2, none⟩)) F701 rfl (rn_field Try.underlying29 rfl (by kernel_rfl) (F701.get rfl) rfl) fun _ F703 => ?_; clear F701
           refine wpl_op (i := 4) rfl (o_store1 (new := [(.int .i64 m), (.slice A R.length c), (.int .i64 (R.length : Nat))]) F703 rfl rfl rfl rfl (F703.get rfl) (F703.get rfl) b697 inf3 (by simp) rfl rfl ?_)
           intro w704 b705 hg706; have z707 := hg706.size
           refine wpList_nil ?_
           refine hK694 _ _ ?_
           clear hK694
           have F708 := ((((((((((((((((((((((F703.nil.c F703 139 rfl).c F703 17 rfl).c F703 16 rfl).c F703 89 rfl).c F703 11 rfl).c F703 10 rfl).c F703 74 rfl).c F703 66 rfl).c F703 9 rfl).c F703 47 rfl).c F703 33 rfl).c F703 28 rfl).c F703 8 rfl).c F703 21 rfl).c F703 7 rfl).c F703 6 rfl).c F703 5 rfl).c F703 4 rfl).c F703 3 rfl).c F703 2 rfl).c F703 1 rfl).c F703 0 rfl)
           clear F703
           refine wp_seq_k (fun K709 hK709 => ?_)
           have hx711 : ∃ W, w704.drew = W ∧ Ext w704 W := ⟨_, rfl, (Ext.refl _).drew⟩
           obtain ⟨w710, e712, hx711⟩ := hx711
           have z713 := hx711.size
           refine anyg_start (fun W => Ext w710 W ∧ Blk W g2 29 [(.int .i64 m), (.slice A R.length c), (.int .i64 (R.length : Nat))] ∧ Blk W g642 25 [(.slice A625 xd.sync.1.sectors.length c626), (.slice B627 xd.sync.1.pending.length e628), (.int .i64 xd.sync.1.left), (.bool xd.sync.1.stopped)] ∧ Blk W g18 29 [(.int .i64 0), (.slice none 0 0), (.int .i64 0)] ∧ Blk W g26 25 [(.slice none 0 0), (.slice none 0 0), (.int .i64 0), (.bool false)]) (fun i => i == 2 || i == 3) (fun W => Blk W g2 29 [(.int .i64 m), (.slice A R.length c), (.int .i64 (R.length : Nat))] ∧ Blk W g642 25 [(.slice A625 xd.sync.1.sectors.length c626), (.slice B627 xd.sync.1.pending.length e628), (.int .i64 xd.sync.1.left), (.bool xd.sync.1.stopped)]) 5 #[false, false, false, false, false] rfl rfl rfl ?_
           rw [e712]; clear e712
           have b715 := (b705.ext hx711)
           have b716 := ((b651.grownN hg706 (by omega)).ext hx711)
           have b717 := (((((b403.ext hx632).ext hx645).grownN hg652 (by omega)).grownN hg706 (by omega)).ext hx711)
           have b718 := (((((b404.ext hx632).ext hx645).grownN hg652 (by omega)).grownN hg706 (by omega)).ext hx711)
           have hS714 : Ext w710 w710 ∧ Blk w710 g2 29 [(.int .i64 m), (.slice A R.length c), (.int .i64 (R.length : Nat))] ∧ Blk w710 g642 25 [(.slice A625 xd.sync.1.sectors.length c626), (.slice B627 xd.sync.1.pending.length e628), (.int .i64 xd.sync.1.left), (.bool xd.sync.1.stopped)] ∧ Blk w710 g18 29 [(.int .i64 0), (.slice none 0 0), (.int .i64 0)] ∧ Blk w710 g26 25 [(.slice none 0 0), (.slice none 0 0), (.int .i64 0), (.bool false)] := ⟨(Ext.refl w710), b715, b716, b717, b718⟩
           refine gs 0 (.agg #[(.int .i64 m), (.slice A R.length c), (.int .i64 (R.length : Nat))]) F708 rfl rfl hS714 (fun W hW => (rn_loadBlk (F708.get rfl) hW.2.1 Try.underlying29 rfl inf29)) fun _ F720 => ?_; clear F708
           have hS721 : Blk w710 g2 29 [(.int .i64 m), (.slice A R.length c), (.int .i64 (R.length : Nat))] ∧ Blk w710 g642 25 [(.slice A625 xd.sync.1.sectors.length c626), (.slice B627 xd.sync.1.pending.length e628), (.int .i64 xd.sync.1.left), (.bool xd.sync.1.stopped)] := ⟨b715, b716⟩
           refine anyg_val2 (i := 1) (v := (.agg #[(.slice A625 xd.sync.1.sectors.length c626), (.slice B627 xd.sync.1.pending.length e628), (.int .i64 xd.sync.1.left), (.bool xd.sync.1.stopped)])) F720 (by decide +kernel) (by decide +kernel) rfl rfl rfl rfl (fun _ _ _ _ h => h) rfl hS721 (fun W hW => (rn_loadBlk (F720.get rfl) hW.2 Try.underlying25 rfl inf25)) ?_
           intro a722 F723; clear F720
           refine anyg_one (i := 2) (by decide +kernel) rfl ?_
           refine o_store (cells := [(.int .i64 m), (.slice A R.length c), (.int .i64 (R.length : Nat))]) F723 rfl rfl rfl rfl (F723.get rfl) (F723.get rfl) b717 inf29 rfl (by simp [Value.oneCell']) ?_
           intro w724 b725 hg726; have z727 := hg726.size
           have b728 := (b715.grownN hg726 (by omega))
           have b729 := (b716.grownN hg726 (by omega))
           refine ⟨⟨fun h => absurd h (by decide), fun _ => ⟨b728, b729⟩⟩, ?_⟩
           refine anyg_one (i := 3) (by decide +kernel) rfl ?_
           have b733 := (b718.grownN hg726 (by omega))
           refine o_store (cells := [(.slice A625 xd.sync.1.sectors.length c626), (.slice B627 xd.sync.1.pending.length e628), (.int .i64 xd.sync.1.left), (.bool xd.sync.1.stopped)]) F723 rfl rfl rfl rfl (F723.get rfl) (F723.get rfl) b733 inf25 rfl (by simp [Value.oneCell']) ?_
           intro w730 b731 hg732; have z734 := hg732.size
           have b735 := (b728.grownN hg732 (by omega))
           have b736 := (b729.grownN hg732 (by omega))
           refine ⟨⟨fun h => absurd h (by decide), fun _ => ⟨b735, b736⟩⟩, ?_⟩
           refine gp 4 (.int .i64 0) F723 rfl rfl (fun W => (rn_assign rfl)) fun _ F738 => ?_; clear F723
           refine anyg_nil (by decide +kernel) ?_
           refine hK709 _ _ ?_
           clear hK709
           refine wp_ret ?_
           have b739 := (b725.grownN hg732 (by omega))
           refine retCC1 F738 rfl rfl rfl rfl b739 Try.underlying29 rfl inf29 b731 Try.underlying25 rfl inf25 ?_
           have hall := wr_all (m := m) ha0 hns hgg.symm hp399 (by omega) hp400
           have d740 := (hd629.pres (((((((Pres.refl w631).ext hx645).grownN hg652 (fun h => by first | (simp only [Clip, ne_eq, not_true_eq_false, and_false, false_and] at h; done) | (have h2 := h.2; omega) | (rcases h.1 with h | h; (focus (first | (simp only [Clip, ne_eq, not_true_eq_false, and_false, false_and] at h; done) | (rcases h with h | h; (focus (simp only [Clip, ne_eq, not_true_eq_false, and_false, false_and] at h)); ((try simp only [Clip] at h); omega)))); omega))).grownN hg706 (fun h => by first | (simp only [Clip, ne_eq, not_true_eq_false, and_false, false_and] at h; done) | (have h2 := h.2; omega) | (rcases h.1 with h | h; (focus (first | (simp only [Clip, ne_eq, not_true_eq_false, and_false, false_and] at h; done) | (rcases h with h | h; (focus (simp only [Clip, ne_eq, not_true_eq_false, and_false, false_and] at h)); ((try simp only [Clip] at h); omega)))); omega))).ext hx711).grownN hg726 (fun h => by first | (simp only [Clip, ne_eq, not_true_eq_false, and_false, false_and] at h; done) | (have h2 := h.2; omega) | (rcases h.1 with h | h; (focus (first | (simp only [Clip, ne_eq, not_true_eq_false, and_false, false_and] at h; done) | (rcases h with h | h; (focus (simp only [Clip, ne_eq, not_true_eq_false, and_false, false_and] at h)); ((try simp only [Clip] at h); omega)))); omega))).grownN hg732 (fun h => by first | (simp only [Clip, ne_eq, not_true_eq_false, and_false, false_and] at h; done) | (have h2 := h.2; omega) | (rcases h.1 with h | h; (focus (first | (simp only [Clip, ne_eq, not_true_eq_false, and_false, false_and] at h; done) | (rcases h with h | h; (focus (simp only [Clip, ne_eq, not_true_eq_false, and_false, false_and] at h)); ((try simp only [Clip] at h); omega)))); omega))))
           have hsy := sync_8 hgo hsl (by rw [← hall]; exact h7)
           rw [← hall] at hsy
           have d741 := (hnc.pres (((((((((Pres.refl w).ext hx397).ext hx632).ext hx645).grownN hg652 (fun h => by simp only [Clip] at h; omega)).grownN hg706 (fun h => by simp only [Clip] at h; omega)).ext hx711).grownN hg726 (fun h => by simp only [Clip] at h; omega)).grownN hg732 (fun h => by simp only [Clip] at h; omega)))
           exact lsync_fin hsy d741 (fun b hb => .inl hb.1) d740 (fun b hb => by rcases hb.1 with h | h; exact h.1.1; exact .inr (by omega)) (((((((((Ext.refl w).trans hx397).trans hx632).trans hx645).grownN hg652 (by omega)).grownN hg706 (by omega)).trans hx711).grownN hg726 (by omega)).grownN hg732 (by omega))
      ·skip
       have heq := hc285
       refine qk 11 F284 rfl (not_f (decide_eq_false hc285)) fun _ F743 => ?_; clear F284
       refine qk 12 F743 rfl (not_f (decide_eq_false hc285)) fun _ F745 => ?_; clear F743
       refine qp 13 (.bool true) F745 rfl rfl (fun W => (rn_pickT (c_true F745 rfl (not_f (decide_eq_false hc285))) rfl)) fun _ F747 => ?_; clear F745
       refine any_nil (by decide +kernel) ?_
       refine hK236 _ _ ?_
       clear hK236
       have F748 := (((((((((((((((F747.nil.c F747 66 rfl).c F747 9 rfl).c F747 47 rfl).c F747 33 rfl).c F747 28 rfl).c F747 8 rfl).c F747 21 rfl).c F747 7 rfl).c F747 6 rfl).c F747 5 rfl).c F747 4 rfl).c F747 3 rfl).c F747 2 rfl).c F747 1 rfl).c F747 0 rfl)
       clear F747
       refine wp_cond_true (c_true F748 rfl rfl) ?_
       refine wp_seq_k (fun K749 hK749 => ?_)
       refine wp_region_lit ?_
       refine qv 0 (.agg #[(.int .i64 0), (.slice none 0 0), (.int .i64 0)]) F748 rfl (rn_build (parts0 ) (by kernel_rfl)) fun _ F751 => ?_; clear F748
       refine qv 1 (.agg #[(.slice none 0 0), (.slice none 0 0), (.int .i64 0), (.bool false)]) F751 rfl (rn_build (parts0 ) (by kernel_rfl)) fun _ F753 => ?_; clear F751
       have b757 := (((((((b20.ext hx29).ext hx42).ext hx82).ext hx229).ext hx238).ext hx263).ext hx275)
       refine wpl_op (i := 2) rfl (o_store (cells := [(.int .i64 0), (.slice none 0 0), (.int .i64 0)]) F753 rfl rfl rfl rfl (F753.get rfl) (F753.get rfl) b757 inf29 rfl (by simp [Value.oneCell']) ?_)
       intro w754 b755 hg756; have z758 := hg756.size
       have b762 := (((((((b28.ext hx42).ext hx82).ext hx229).ext hx238).ext hx263).ext hx275).grownN hg756 (by omega))
       refine wpl_op (i := 3) rfl (o_store (cells := [(.slice none 0 0), (.slice none 0 0), (.int .i64 0), (.bool false)]) F753 rfl rfl rfl rfl (F753.get rfl) (F753.get rfl) b762 inf25 rfl (by simp [Value.oneCell']) ?_)
       intro w759 b760 hg761; have z763 := hg761.size
       refine qv 4 (.int .i64 390) F753 rfl (rn_assign rfl) fun _ F765 => ?_; clear F753
       refine wpList_nil ?_
       refine hK749 _ _ ?_
       clear hK749
       refine wp_ret ?_
       refine ret_then ?_
       have b766 := (b755.grownN hg761 (by omega))
       refine retCC1 F765 rfl rfl rfl rfl b766 Try.underlying29 rfl inf29 b760 Try.underlying25 rfl inf25 ?_
       exact lsync_err (sync_5 hlc hmn hop (.inl heq)) (((((((((((((Ext.refl w).trans hx5).trans hx13).trans hx21).trans hx29).trans hx42).trans hx82).trans hx229).trans hx238).trans hx263).trans hx275).grownN hg756 (by omega)).grownN hg761 (by omega))

theorem rsync9_at {v u : Value} (m : Int) (R : List (List UInt8)) (s : Int) (d : Dk) (w : World) (hn : RBss S w v R) (hb : ∀ x ∈ R, x.length ≤ 140737488355328) (hu : usedL R < 9223372036854775808) (hd : RDk S w u d) :
  Calls Try.prog 22 #[.agg #[.int .i64 m, v, .int .i64 s], u] w (SyncRet S w ((Lg.mk m R s).sync d)) := by
 obtain ⟨A, c, rfl, _⟩ := hn.form
 obtain ⟨X, x, Y, y, rfl, -, -⟩ := hd.form
 exact rsync9_any m A c R s X x Y y d w hn hb hu hd

end Go.Proofs.Ytfmhnplkpohogaa

namespace Go.Proofs.Ytfmhnplkpohogaa
open Go.RowKit

variable {S S' : Nat → Prop}

set_option maxRecDepth 100000 in
set_option maxHeartbeats 4000000 in
theorem jsyncSpec_any (m : Int) (A : Option Addr) (c : Nat) (R : List (List UInt8)) (s : Int) (X : Option Addr) (x : Nat) (Y : Option Addr) (y : Nat) (d : Dk) (w : World) (hn : RBss S w (.slice A R.length c) R) (hb : ∀ x ∈ R, x.length ≤ 140737488355328) (hu : usedL R < 9223372036854775808) (hd : RDk S w (.agg #[.slice X d.sectors.length x, .slice Y d.pending.length y, .int .i64 d.left, .bool d.stopped]) d) :
  Calls Try.prog 5 #[.agg #[.int .i64 m, .slice A R.length c, .int .i64 s], .agg #[.slice X d.sectors.length x, .slice Y d.pending.length y, .int .i64 d.left, .bool d.stopped]] w (RB w true) := by
 have hnc := RBss.clip hn
 obtain ⟨-, hcR1, hcR2⟩ := RBss.at hn
 have hdc := RDk.clip hd
 obtain ⟨hq1, hq2⟩ := (RDk.len hd).1.at.2.1
 obtain ⟨-, hq3, hq4⟩ := RSl.elem (RDk.len hd).2.1
 refine calls_enter (l := [(.agg #[(.int .i64 m), (.slice A R.length c), (.int .i64 s)]), (.agg #[(.slice X d.sectors.length x), (.slice Y d.pending.length y), (.int .i64 d.left), (.bool d.stopped)])]) Try.func5 rfl rfl rfl (fun aA hF => ?_)
 refine wp_seq_k (fun K1 hK1 => ?_)
 refine wp_region_lit ?_
 refine wpl_op (i := 0) rfl (o_new (fun g => (.pointer (some ⟨g, 0, none⟩))) [(.int .i64 m), (.slice A R.length c), (.int .i64 s)] 29 hF rfl rfl rfl rfl (rn_box (hF.get rfl) (by kernel_rfl)) ?_)
 intro g2 w3 a8 F9 z6 z7 b4 hx5; clear hF
 refine wpl_op (i := 1) rfl (o_new (fun g => (.pointer (some ⟨g, 0, none⟩))) [(.slice X d.sectors.length x), (.slice Y d.pending.length y), (.int .i64 d.left), (.bool d.stopped)] 25 F9 rfl rfl rfl rfl (rn_box (F9.get rfl) (by kernel_rfl)) ?_)
 intro g10 w11 a16 F17 z14 z15 b12 hx13; clear F9
 refine qv 2 (.bool false) F17 rfl (rn_assign rfl) fun _ F19 => ?_; clear F17
 refine wpList_nil ?_
 refine hK1 _ _ ?_
 clear hK1
 refine wp_seq_k (fun K20 hK20 => ?_)
 refine wp_seq_k (fun K21 hK21 => ?_)
 refine wp_region_lit ?_
 refine wpl_op (i := 0) rfl (o_call F19 rfl rfl rfl rfl (rn_call (args0 ) rfl (by kernel_rfl)) (sane9_any _) ?_)
 rintro _ w22 ⟨rfl, hx23⟩
 refine ⟨_, rfl, ?_⟩; intro a24 F25; clear F19; have z26 := hx23.size
 refine qv 1 (.bool false) F25 rfl (rn_not' (F25.get rfl) rfl) fun _ F28 => ?_; clear F25
 refine wpList_nil ?_
 refine hK21 _ _ ?_
 clear hK21
 refine wp_cond_false (c_false F28 rfl rfl) ?_
 refine wp_skip ?_
 refine hK20 _ _ ?_
 clear hK20
 refine wp_seq_k (fun K29 hK29 => ?_)
 refine wp_seq_k (fun K30 hK30 => ?_)
 refine wp_region_lit ?_
 have b31 := (b12.ext hx23)
 refine qv 0 (.agg #[(.slice X d.sectors.length x), (.slice Y d.pending.length y), (.int .i64 d.left), (.bool d.stopped)]) F28 rfl (rn_loadBlk (F28.get rfl) b31 Try.underlying25 rfl inf25) fun _ F33 => ?_; clear F28
 refine qv 1 (.pointer (some ⟨g2, 1, none⟩)) F33 rfl (rn_field Try.underlying29 rfl (by kernel_rfl) (F33.get rfl) rfl) fun _ F35 => ?_; clear F33
 have b36 := ((b4.ext hx13).ext hx23)
 refine qv 2 (.slice A R.length c) F35 rfl (rn_load (isAgg_no Try.underlying22 rfl) (F35.get rfl) (b36.rule.1 1)) fun _ F38 => ?_; clear F35
 have d39 := (((hnc.ext hx5).ext hx13).ext hx23)
 refine wpl_op (i := 3) rfl (o_call F38 rfl rfl rfl rfl (rn_call (args2 (F38.get rfl) (F38.get rfl)) rfl (by kernel_rfl)) (few9_at (v := (.slice A R.length c)) X d.sectors.length x Y d.pending.length y d.left d.stopped R _ d39 hb) ?_)
 rintro _ w42 ⟨bq40, rfl, hfew41, hx43⟩
 refine ⟨_, rfl, ?_⟩; intro a44 F45; clear F38; have z46 := hx43.size
 refine qv 4 (.bool (!bq40)) F45 rfl (rn_not' (F45.get rfl) rfl) fun _ F48 => ?_; clear F45
 refine wpList_nil ?_
 refine hK30 _ _ ?_
 clear hK30
 have F49 := (((((((F48.nil.c F48 17 rfl).c F48 12 rfl).c F48 4 rfl).c F48 3 rfl).c F48 2 rfl).c F48 1 rfl).c F48 0 rfl)
 clear F48
 rcases Bool.eq_false_or_eq_true bq40 with hc50 | hc50
 ·skip
  refine wp_cond_false (c_false F49 rfl (not_t hc50)) ?_
  refine wp_skip ?_
  refine hK29 _ _ ?_
  clear hK29
  refine wp_seq_k (fun K51 hK51 => ?_)
  refine wp_region_lit ?_
  have b52 := (b36.ext hx43)
  refine qv 0 (.agg #[(.int .i64 m), (.slice A R.length c), (.int .i64 s)]) F49 rfl (rn_loadBlk (F49.get rfl) b52 Try.underlying29 rfl inf29) fun _ F54 => ?_; clear F49
  have b55 := (b31.ext hx43)
  refine qv 1 (.agg #[(.slice X d.sectors.length x), (.slice Y d.pending.length y), (.int .i64 d.left), (.bool d.stopped)]) F54 rfl (rn_loadBlk (F54.get rfl) b55 Try.underlying25 rfl inf25) fun _ F57 => ?_; clear F54
  have d58 := ((((hnc.ext hx5).ext hx13).ext hx23).ext hx43)
  have d59 := ((((hdc.ext hx5).ext hx13).ext hx23).ext hx43)
  refine wpl_op (i := 2) rfl (o_call F57 rfl rfl rfl rfl (rn_call (args2 (F57.get rfl) (F57.get rfl)) rfl (by kernel_rfl)) (sync9_at (S := (fun b => (Clip S w) b ∨ (Clip S w) b)) (v := (.slice A R.length c)) (u := (.agg #[(.slice X d.sectors.length x), (.slice Y d.pending.length y), (.int .i64 d.left), (.bool d.stopped)])) m R s d _ (RBss.sub d58 fun b hb => .inl hb) hb (by omega) (RDk.sub d59 fun b hb => .inr hb)) ?_)
  rintro _ w69 ⟨A60, c61, v62, rfl, hb63, hd64, hx70⟩
  obtain ⟨A65, c66, B67, e68, rfl, -, -⟩ := hd64.form
  have hd64 := hd64.clip
  refine ⟨_, rfl, ?_⟩; intro a71 F72; clear F57; have z73 := hx70.size
  have hf74 := RBss.clip hb63
  obtain ⟨-, z75, z76⟩ := RBss.at hb63
  refine qv 3 (.tuple #[(.agg #[(.int .i64 (((Lg.mk m R s).sync d).1.many)), (.slice A60 ((((Lg.mk m R s).sync d).1.recs).length) c61), (.int .i64 (((Lg.mk m R s).sync d).1.synced))]), (.agg #[(.slice A65 ((((Lg.mk m R s).sync d).2.1).sectors.length) c66), (.slice B67 ((((Lg.mk m R s).sync d).2.1).pending.length) e68), (.int .i64 ((((Lg.mk m R s).sync d).2.1).left)), (.bool ((((Lg.mk m R s).sync d).2.1).stopped))]), (.int .i64 (((Lg.mk m R s).sync d).2.2))]) F72 rfl (rn_move (F72.get rfl)) fun _ F78 => ?_; clear F72
  refine qv 4 (.agg #[(.int .i64 (((Lg.mk m R s).sync d).1.many)), (.slice A60 ((((Lg.mk m R s).sync d).1.recs).length) c61), (.int .i64 (((Lg.mk m R s).sync d).1.synced))]) F78 rfl (rn_extract (F78.get rfl) rfl) fun _ F80 => ?_; clear F78
  refine qv 5 (.agg #[(.slice A65 ((((Lg.mk m R s).sync d).2.1).sectors.length) c66), (.slice B67 ((((Lg.mk m R s).sync d).2.1).pending.length) e68), (.int .i64 ((((Lg.mk m R s).sync d).2.1).left)), (.bool ((((Lg.mk m R s).sync d).2.1).stopped))]) F80 rfl (rn_extract (F80.get rfl) rfl) fun _ F82 => ?_; clear F80
  refine qv 6 (.int .i64 (((Lg.mk m R s).sync d).2.2)) F82 rfl (rn_extract (F82.get rfl) rfl) fun _ F84 => ?_; clear F82
  refine wpl_op (i := 7) rfl (o_new (fun g => (.pointer (some ⟨g, 0, none⟩))) [(.int .i64 0), (.slice none 0 0), (.int .i64 0)] 29 F84 rfl rfl rfl rfl (by kernel_rfl) ?_)
  intro g85 w86 a91 F92 z89 z90 b87 hx88; clear F84
  refine wpl_op (i := 8) rfl (o_new (fun g => (.pointer (some ⟨g, 0, none⟩))) [(.slice none 0 0), (.slice none 0 0), (.int .i64 0), (.bool false)] 25 F92 rfl rfl rfl rfl (by kernel_rfl) ?_)
  intro g93 w94 a99 F100 z97 z98 b95 hx96; clear F92
  have b104 := (b87.ext hx96)
  refine wpl_op (i := 9) rfl (o_store (cells := [(.int .i64 (((Lg.mk m R s).sync d).1.many)), (.slice A60 ((((Lg.mk m R s).sync d).1.recs).length) c61), (.int .i64 (((Lg.mk m R s).sync d).1.synced))]) F100 rfl rfl rfl rfl (F100.get rfl) (F100.get rfl) b104 inf29 rfl (by simp [Value.oneCell']) ?_)
  intro w101 b102 hg103; have z105 := hg103.size
  have b109 := (b95.grownN hg103 (by omega))
  refine wpl_op (i := 10) rfl (o_store (cells := [(.slice A65 ((((Lg.mk m R s).sync d).2.1).sectors.length) c66), (.slice B67 ((((Lg.mk m R s).sync d).2.1).pending.length) e68), (.int .i64 ((((Lg.mk m R s).sync d).2.1).left)), (.bool ((((Lg.mk m R s).sync d).2.1).stopped))]) F100 rfl rfl rfl rfl (F100.get rfl) (F100.get rfl) b109 inf25 rfl (by simp [Value.oneCell']) ?_)
  intro w106 b107 hg108; have z110 := hg108.size
  refine qv 11 (.int .i64 (((Lg.mk m R s).sync d).2.2)) F100 rfl (rn_assign (F100.get rfl)) fun _ F112 => ?_; clear F100
  refine wpList_nil ?_
  refine hK51 _ _ ?_
  clear hK51
  have F113 := ((((((((((F112.nil.c F112 7 rfl).c F112 6 rfl).c F112 5 rfl).c F112 17 rfl).c F112 12 rfl).c F112 4 rfl).c F112 3 rfl).c F112 2 rfl).c F112 1 rfl).c F112 0 rfl)
  clear F112
  refine wp_seq_k (fun K114 hK114 => ?_)
  refine wp_region_lit ?_
  have b115 := (((((b52.ext hx70).ext hx88).ext hx96).grownN hg103 (by omega)).grownN hg108 (by omega))
  refine qv 0 (.agg #[(.int .i64 m), (.slice A R.length c), (.int .i64 s)]) F113 rfl (rn_loadBlk (F113.get rfl) b115 Try.underlying29 rfl inf29) fun _ F117 => ?_; clear F113
  have b118 := (((((b55.ext hx70).ext hx88).ext hx96).grownN hg103 (by omega)).grownN hg108 (by omega))
  refine qv 1 (.agg #[(.slice X d.sectors.length x), (.slice Y d.pending.length y), (.int .i64 d.left), (.bool d.stopped)]) F117 rfl (rn_loadBlk (F117.get rfl) b118 Try.underlying25 rfl inf25) fun _ F120 => ?_; clear F117
  have d121 := (hnc.pres ((((((((((Pres.refl w).ext hx5).ext hx13).ext hx23).ext hx43).ext hx70).ext hx88).ext hx96).grownN hg103 (fun h => by simp only [Clip] at h; omega)).grownN hg108 (fun h => by simp only [Clip] at h; omega)))
  have d122 := (hdc.pres ((((((((((Pres.refl w).ext hx5).ext hx13).ext hx23).ext hx43).ext hx70).ext hx88).ext hx96).grownN hg103 (fun h => by simp only [Clip] at h; omega)).grownN hg108 (fun h => by simp only [Clip] at h; omega)))
  refine wpl_op (i := 2) rfl (o_call F120 rfl rfl rfl rfl (rn_call (args2 (F120.get rfl) (F120.get rfl)) rfl (by kernel_rfl)) (rsync9_at (S := (fun b => (Clip S w) b ∨ (Clip S w) b)) (v := (.slice A R.length c)) (u := (.agg #[(.slice X d.sectors.length x), (.slice Y d.pending.length y), (.int .i64 d.left), (.bool d.stopped)])) m R s d _ (RBss.sub d121 fun b hb => .inl hb) hb (by omega) (RDk.sub d122 fun b hb => .inr hb)) ?_)
  rintro _ w132 ⟨A123, c124, v125, rfl, hb126, hd127, hx133⟩
  obtain ⟨A128, c129, B130, e131, rfl, -, -⟩ := hd127.form
  have hd127 := hd127.clip
  refine ⟨_, rfl, ?_⟩; intro a134 F135; clear F120; have z136 := hx133.size
  have hf137 := RBss.clip hb126
  obtain ⟨-, z138, z139⟩ := RBss.at hb126
  refine qv 3 (.tuple #[(.agg #[(.int .i64 (((Lg.mk m R s).sync d).1.many)), (.slice A123 ((((Lg.mk m R s).sync d).1.recs).length) c124), (.int .i64 (((Lg.mk m R s).sync d).1.synced))]), (.agg #[(.slice A128 ((((Lg.mk m R s).sync d).2.1).sectors.length) c129), (.slice B130 ((((Lg.mk m R s).sync d).2.1).pending.length) e131), (.int .i64 ((((Lg.mk m R s).sync d).2.1).left)), (.bool ((((Lg.mk m R s).sync d).2.1).stopped))]), (.int .i64 (((Lg.mk m R s).sync d).2.2))]) F135 rfl (rn_move (F135.get rfl)) fun _ F141 => ?_; clear F135
  refine qv 4 (.agg #[(.int .i64 (((Lg.mk m R s).sync d).1.many)), (.slice A123 ((((Lg.mk m R s).sync d).1.recs).length) c124), (.int .i64 (((Lg.mk m R s).sync d).1.synced))]) F141 rfl (rn_extract (F141.get rfl) rfl) fun _ F143 => ?_; clear F141
  refine qv 5 (.agg #[(.slice A128 ((((Lg.mk m R s).sync d).2.1).sectors.length) c129), (.slice B130 ((((Lg.mk m R s).sync d).2.1).pending.length) e131), (.int .i64 ((((Lg.mk m R s).sync d).2.1).left)), (.bool ((((Lg.mk m R s).sync d).2.1).stopped))]) F143 rfl (rn_extract (F143.get rfl) rfl) fun _ F145 => ?_; clear F143
  refine qv 6 (.int .i64 (((Lg.mk m R s).sync d).2.2)) F145 rfl (rn_extract (F145.get rfl) rfl) fun _ F147 => ?_; clear F145
  refine wpl_op (i := 7) rfl (o_new (fun g => (.pointer (some ⟨g, 0, none⟩))) [(.int .i64 0), (.slice none 0 0), (.int .i64 0)] 29 F147 rfl rfl rfl rfl (by kernel_rfl) ?_)
  intro g148 w149 a154 F155 z152 z153 b150 hx151; clear F147
  refine wpl_op (i := 8) rfl (o_new (fun g => (.pointer (some ⟨g, 0, none⟩))) [(.slice none 0 0), (.slice none 0 0), (.int .i64 0), (.bool false)] 25 F155 rfl rfl rfl rfl (by kernel_rfl) ?_)
  intro g156 w157 a162 F163 z160 z161 b158 hx159; clear F155
  have b167 := (b150.ext hx159)
  refine wpl_op (i := 9) rfl (o_store (cells := [(.int .i64 (((Lg.mk m R s).sync d).1.many)), (.slice A123 ((((Lg.mk m R s).sync d).1.recs).length) c124), (.int .i64 (((Lg.mk m R s).sync d).1.synced))]) F163 rfl rfl rfl rfl (F163.get rfl) (F163.get rfl) b167 inf29 rfl (by simp [Value.oneCell']) ?_)
  intro w164 b165 hg166; have z168 := hg166.size
  have b172 := (b158.grownN hg166 (by omega))
  refine wpl_op (i := 10) rfl (o_store (cells := [(.slice A128 ((((Lg.mk m R s).sync d).2.1).sectors.length) c129), (.slice B130 ((((Lg.mk m R s).sync d).2.1).pending.length) e131), (.int .i64 ((((Lg.mk m R s).sync d).2.1).left)), (.bool ((((Lg.mk m R s).sync d).2.1).stopped))]) F163 rfl rfl rfl rfl (F163.get rfl) (F163.get rfl) b172 inf25 rfl (by simp [Value.oneCell']) ?_)
  intro w169 b170 hg171; have z173 := hg171.size
  refine qv 11 (.int .i64 (((Lg.mk m R s).sync d).2.2)) F163 rfl (rn_assign (F163.get rfl)) fun _ F175 => ?_; clear F163
  refine wpList_nil ?_
  refine hK114 _ _ ?_
  clear hK114
  have F176 := (((((((((((((F175.nil.c F175 10 rfl).c F175 9 rfl).c F175 8 rfl).c F175 7 rfl).c F175 6 rfl).c F175 5 rfl).c F175 17 rfl).c F175 12 rfl).c F175 4 rfl).c F175 3 rfl).c F175 2 rfl).c F175 1 rfl).c F175 0 rfl)
  clear F175
  refine wp_seq_k (fun K177 hK177 => ?_)
  refine wp_region_lit ?_
  have b178 := ((((((b102.grownN hg108 (by omega)).ext hx133).ext hx151).ext hx159).grownN hg166 (by omega)).grownN hg171 (by omega))
  refine qv 0 (.agg #[(.int .i64 (((Lg.mk m R s).sync d).1.many)), (.slice A60 ((((Lg.mk m R s).sync d).1.recs).length) c61), (.int .i64 (((Lg.mk m R s).sync d).1.synced))]) F176 rfl (rn_loadBlk (F176.get rfl) b178 Try.underlying29 rfl inf29) fun _ F180 => ?_; clear F176
  have b181 := (b165.grownN hg171 (by omega))
  refine qv 1 (.agg #[(.int .i64 (((Lg.mk m R s).sync d).1.many)), (.slice A123 ((((Lg.mk m R s).sync d).1.recs).length) c124), (.int .i64 (((Lg.mk m R s).sync d).1.synced))]) F180 rfl (rn_loadBlk (F180.get rfl) b181 Try.underlying29 rfl inf29) fun _ F183 => ?_; clear F180
  have d184 := (hf74.pres ((((((((((Pres.refl w69).ext hx88).ext hx96).grownN hg103 (fun h => by simp only [Clip] at h; omega)).grownN hg108 (fun h => by simp only [Clip] at h; omega)).ext hx133).ext hx151).ext hx159).grownN hg166 (fun h => by simp only [Clip] at h; omega)).grownN hg171 (fun h => by simp only [Clip] at h; omega)))
  have d185 := (hf137.pres (((((Pres.refl w132).ext hx151).ext hx159).grownN hg166 (fun h => by simp only [Clip] at h; omega)).grownN hg171 (fun h => by simp only [Clip] at h; omega)))
  refine wpl_op (i := 2) rfl (o_call F183 rfl rfl rfl rfl (rn_call (args2 (F183.get rfl) (F183.get rfl)) rfl (by kernel_rfl)) (same9_at (v := (.slice A60 ((((Lg.mk m R s).sync d).1.recs).length) c61)) (u := (.slice A123 ((((Lg.mk m R s).sync d).1.recs).length) c124)) (((Lg.mk m R s).sync d).1.many) (((Lg.mk m R s).sync d).1.recs) (((Lg.mk m R s).sync d).1.synced) (((Lg.mk m R s).sync d).1.many) (((Lg.mk m R s).sync d).1.recs) (((Lg.mk m R s).sync d).1.synced) _ d184 d185) ?_)
  rintro _ w186 ⟨rfl, hx187⟩
  refine ⟨_, rfl, ?_⟩; intro a188 F189; clear F183; have z190 := hx187.size
  refine qv 3 (.bool ((Lg.mk (((Lg.mk m R s).sync d).1.many) (((Lg.mk m R s).sync d).1.recs) (((Lg.mk m R s).sync d).1.synced)).same (Lg.mk (((Lg.mk m R s).sync d).1.many) (((Lg.mk m R s).sync d).1.recs) (((Lg.mk m R s).sync d).1.synced)))) F189 rfl (rn_move (F189.get rfl)) fun _ F192 => ?_; clear F189
  have b194 := ((((((b107.ext hx133).ext hx151).ext hx159).grownN hg166 (by omega)).grownN hg171 (by omega)).ext hx187)
  refine qg 4 (.agg #[(.slice A65 ((((Lg.mk m R s).sync d).2.1).sectors.length) c66), (.slice B67 ((((Lg.mk m R s).sync d).2.1).pending.length) e68), (.int .i64 ((((Lg.mk m R s).sync d).2.1).left)), (.bool ((((Lg.mk m R s).sync d).2.1).stopped))]) F192 ((same9_self _) : (Lg.mk (((Lg.mk m R s).sync d).1.many) (((Lg.mk m R s).sync d).1.recs) (((Lg.mk m R s).sync d).1.synced)).same (Lg.mk (((Lg.mk m R s).sync d).1.many) (((Lg.mk m R s).sync d).1.recs) (((Lg.mk m R s).sync d).1.synced)) = true) (rn_loadBlk (F192.get rfl) b194 Try.underlying25 rfl inf25) fun _ F196 => ?_; clear F192
  have b197 := (b170.ext hx187)
  refine qg 5 (.agg #[(.slice A128 ((((Lg.mk m R s).sync d).2.1).sectors.length) c129), (.slice B130 ((((Lg.mk m R s).sync d).2.1).pending.length) e131), (.int .i64 ((((Lg.mk m R s).sync d).2.1).left)), (.bool ((((Lg.mk m R s).sync d).2.1).stopped))]) F196 ((same9_self _) : (Lg.mk (((Lg.mk m R s).sync d).1.many) (((Lg.mk m R s).sync d).1.recs) (((Lg.mk m R s).sync d).1.synced)).same (Lg.mk (((Lg.mk m R s).sync d).1.many) (((Lg.mk m R s).sync d).1.recs) (((Lg.mk m R s).sync d).1.synced)) = true) (rn_loadBlk (F196.get rfl) b197 Try.underlying25 rfl inf25) fun _ F199 => ?_; clear F196
  have d200 := (hd64.pres (((((((((((Pres.refl w69).ext hx88).ext hx96).grownN hg103 (fun h => by first | (simp only [Clip, ne_eq, not_true_eq_false, and_false, false_and] at h; done) | (have h2 := h.2; omega) | (rcases h.1 with h | h; (focus (first | (simp only [Clip, ne_eq, not_true_eq_false, and_false, false_and] at h; done) | (rcases h with h | h; (focus (simp only [Clip, ne_eq, not_true_eq_false, and_false, false_and] at h)); ((try simp only [Clip] at h); omega)))); omega))).grownN hg108 (fun h => by first | (simp only [Clip, ne_eq, not_true_eq_false, and_false, false_and] at h; done) | (have h2 := h.2; omega) | (rcases h.1 with h | h; (focus (first | (simp only [Clip, ne_eq, not_true_eq_false, and_false, false_and] at h; done) | (rcases h with h | h; (focus (simp only [Clip, ne_eq, not_true_eq_false, and_false, false_and] at h)); ((try simp only [Clip] at h); omega)))); omega))).ext hx133).ext hx151).ext hx159).grownN hg166 (fun h => by first | (simp only [Clip, ne_eq, not_true_eq_false, and_false, false_and] at h; done) | (have h2 := h.2; omega) | (rcases h.1 with h | h; (focus (first | (simp only [Clip, ne_eq, not_true_eq_false, and_false, false_and] at h; done) | (rcases h with h | h; (focus (simp only [Clip, ne_eq, not_true_eq_false, and_false, false_and] at h)); ((try simp only [Clip] at h); omega)))); omega))).grownN hg171 (fun h => by first | (simp only [Clip, ne_eq, not_true_eq_false, and_false, false_and] at h; done) | (have h2 := h.2; omega) | (rcases h.1 with h | h; (focus (first | (simp only [Clip, ne_eq, not_true_eq_false, and_false, false_and] at h; done) | (rcases h with h | h; (focus (simp only [Clip, ne_eq, not_true_eq_false, and_false, false_and] at h)); ((try simp only [Clip] at h); omega)))); omega))).ext hx187))
  have d201 := (hd127.pres ((((((Pres.refl w132).ext hx151).ext hx159).grownN hg166 (fun h => by first | (simp only [Clip, ne_eq, not_true_eq_false, and_false, false_and] at h; done) | (have h2 := h.2; omega) | (rcases h.1 with h | h; (focus (first | (simp only [Clip, ne_eq, not_true_eq_false, and_false, false_and] at h; done) | (rcases h with h | h; (focus (simp only [Clip, ne_eq, not_true_eq_false, and_false, false_and] at h)); ((try simp only [Clip] at h); omega)))); omega))).grownN hg171 (fun h => by first | (simp only [Clip, ne_eq, not_true_eq_false, and_false, false_and] at h; done) | (have h2 := h.2; omega) | (rcases h.1 with h | h; (focus (first | (simp only [Clip, ne_eq, not_true_eq_false, and_false, false_and] at h; done) | (rcases h with h | h; (focus (simp only [Clip, ne_eq, not_true_eq_false, and_false, false_and] at h)); ((try simp only [Clip] at h); omega)))); omega))).ext hx187))
  refine wpl_op (i := 6) rfl (o_call F199 rfl (wanted_guard rfl rfl rfl F199 rfl ((same9_self _) : (Lg.mk (((Lg.mk m R s).sync d).1.many) (((Lg.mk m R s).sync d).1.recs) (((Lg.mk m R s).sync d).1.synced)).same (Lg.mk (((Lg.mk m R s).sync d).1.many) (((Lg.mk m R s).sync d).1.recs) (((Lg.mk m R s).sync d).1.synced)) = true) rfl) rfl rfl (rn_call (args2 (F199.get rfl) (F199.get rfl)) rfl (by kernel_rfl)) (same_any (S := fun _ => True) _ _ (((Lg.mk m R s).sync d).2.1) (((Lg.mk m R s).sync d).2.1) _ d200.all d201.all) ?_)
  rintro _ w202 ⟨rfl, hx203⟩
  refine ⟨_, rfl, ?_⟩; intro a204 F205; clear F199; have z206 := hx203.size
  refine qv 7 (.bool ((((Lg.mk m R s).sync d).2.1).same (((Lg.mk m R s).sync d).2.1))) F205 rfl (rn_pickT (c_true F205 rfl ((same9_self _) : (Lg.mk (((Lg.mk m R s).sync d).1.many) (((Lg.mk m R s).sync d).1.recs) (((Lg.mk m R s).sync d).1.synced)).same (Lg.mk (((Lg.mk m R s).sync d).1.many) (((Lg.mk m R s).sync d).1.recs) (((Lg.mk m R s).sync d).1.synced)) = true)) (F205.get rfl)) fun _ F208 => ?_; clear F205
  refine qv 8 (.bool ((((Lg.mk m R s).sync d).2.1).same (((Lg.mk m R s).sync d).2.1))) F208 rfl (rn_move (F208.get rfl)) fun _ F210 => ?_; clear F208
  refine qg 9 (.int .i64 (((Lg.mk m R s).sync d).2.2)) F210 ((same_self _) : (((Lg.mk m R s).sync d).2.1).same (((Lg.mk m R s).sync d).2.1) = true) (rn_move (F210.get rfl)) fun _ F213 => ?_; clear F210
  refine qg 10 (.int .i64 (((Lg.mk m R s).sync d).2.2)) F213 ((same_self _) : (((Lg.mk m R s).sync d).2.1).same (((Lg.mk m R s).sync d).2.1) = true) (rn_move (F213.get rfl)) fun _ F215 => ?_; clear F213
  refine qg 11 (.bool (decide ((((Lg.mk m R s).sync d).2.2 : Int) = (((Lg.mk m R s).sync d).2.2 : Int)))) F215 ((same_self _) : (((Lg.mk m R s).sync d).2.1).same (((Lg.mk m R s).sync d).2.1) = true) (rn_eql (F215.get rfl) (F215.get rfl)) fun _ F217 => ?_; clear F215
  refine qv 12 (.bool (decide ((((Lg.mk m R s).sync d).2.2 : Int) = (((Lg.mk m R s).sync d).2.2 : Int)))) F217 rfl (rn_pickT (c_true F217 rfl ((same_self _) : (((Lg.mk m R s).sync d).2.1).same (((Lg.mk m R s).sync d).2.1) = true)) (F217.get rfl)) fun _ F219 => ?_; clear F217
  refine qv 13 (.bool (decide ((((Lg.mk m R s).sync d).2.2 : Int) = (((Lg.mk m R s).sync d).2.2 : Int)))) F219 rfl (rn_assign (F219.get rfl)) fun _ F221 => ?_; clear F219
  refine wpList_nil ?_
  refine hK177 _ _ ?_
  clear hK177
  have F222 := (((((((((((((F221.nil.c F221 10 rfl).c F221 9 rfl).c F221 8 rfl).c F221 7 rfl).c F221 6 rfl).c F221 5 rfl).c F221 17 rfl).c F221 12 rfl).c F221 4 rfl).c F221 3 rfl).c F221 2 rfl).c F221 1 rfl).c F221 0 rfl)
  clear F221
  refine wp_ret ?_
  refine ret1 F222 rfl rfl ?_
  exact ⟨congrArg (fun b => Ending.returned (.bool b)) ((decide_eq_true rfl) : decide ((((Lg.mk m R s).sync d).2.2 : Int) = (((Lg.mk m R s).sync d).2.2 : Int)) = true), (((((((((((((((((Ext.refl w).trans hx5).trans hx13).trans hx23).trans hx43).trans hx70).trans hx88).trans hx96).grownN hg103 (by omega)).grownN hg108 (by omega)).trans hx133).trans hx151).trans hx159).grownN hg166 (by omega)).grownN hg171 (by omega)).trans hx187).trans hx203)⟩
 ·skip
  refine wp_cond_true (c_true F49 rfl (not_f hc50)) ?_
  refine wp_seq_k (fun K223 hK223 => ?_)
  refine wp_region_lit ?_
  refine qv 0 (.bool true) F49 rfl (rn_assign rfl) fun _ F225 => ?_; clear F49
  refine wpList_nil ?_
  refine hK223 _ _ ?_
  clear hK223
  refine wp_ret ?_
  refine ret_then ?_
  refine ret1 F225 rfl rfl ?_
  exact ⟨congrArg (fun b => Ending.returned (.bool b)) (rfl : true = true), (((((Ext.refl w).trans hx5).trans hx13).trans hx23).trans hx43)⟩

end Go.Proofs.Ytfmhnplkpohogaa
