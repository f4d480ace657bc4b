/- Contract of Sync. -/
import Derived.Test.YtfmhnplkpohogaaProg
import Derived.Test.YtfmhnplkpohogaaBvgG
import Derived.KernelRfl
import Derived.Test.YtfmhnplkpohogaaBvgA
import Derived.Test.YtfmhnplkpohogaaBvgB
set_option linter.unusedVariables false
set_option linter.unusedSimpArgs false
namespace Go.Proofs.Ytfmhnplkpohogaa
open Go.RowKit

variable {S S' : Nat → Prop}

set_option maxRecDepth 100000 in
set_option maxHeartbeats 8000000 in
theorem sync9_any (m : Int) (A : Option Addr) (c : Nat) (R : List (List UInt8)) (s : Int) (X : Option Addr) (x : Nat) (Y : Option Addr) (y : Nat) (d : Dk) (w : World) (hn : RBss S w (.slice A R.length c) R) (hb : ∀ x ∈ R, x.length ≤ 140737488355328) (hu : usedL R < 9223372036854775808) (hd : RDk S w (.agg #[.slice X d.sectors.length x, .slice Y d.pending.length y, .int .i64 d.left, .bool d.stopped]) d) :
  Calls Try.prog 21 #[.agg #[.int .i64 m, .slice A R.length c, .int .i64 s], .agg #[.slice X d.sectors.length x, .slice Y d.pending.length y, .int .i64 d.left, .bool d.stopped]] w (SyncRet S w ((Lg.mk m R s).sync d)) := by
 have hnc := RBss.clip hn
 obtain ⟨-, hcR1, hcR2⟩ := RBss.at hn
 have hdc := RDk.clip hd
 obtain ⟨hq1, hq2⟩ := (RDk.len hd).1.at.2.1
 obtain ⟨-, hq3, hq4⟩ := RSl.elem (RDk.len hd).2.1
 refine calls_enter (l := [(.agg #[(.int .i64 m), (.slice A R.length c), (.int .i64 s)]), (.agg #[(.slice X d.sectors.length x), (.slice Y d.pending.length y), (.int .i64 d.left), (.bool d.stopped)])]) Try.func21 rfl rfl rfl (fun aA hF => ?_)
 refine wp_seq_k (fun K1 hK1 => ?_)
 refine wp_region_lit ?_
 refine wpl_op (i := 0) rfl (o_new (fun g => (.pointer (some ⟨g, 0, none⟩))) [(.int .i64 m), (.slice A R.length c), (.int .i64 s)] 29 hF rfl rfl rfl rfl (rn_box (hF.get rfl) (by kernel_rfl)) ?_)
 intro g2 w3 a8 F9 z6 z7 b4 hx5; clear hF
 refine wpl_op (i := 1) rfl (o_new (fun g => (.pointer (some ⟨g, 0, none⟩))) [(.slice X d.sectors.length x), (.slice Y d.pending.length y), (.int .i64 d.left), (.bool d.stopped)] 25 F9 rfl rfl rfl rfl (rn_box (F9.get rfl) (by kernel_rfl)) ?_)
 intro g10 w11 a16 F17 z14 z15 b12 hx13; clear F9
 refine wpl_op (i := 2) rfl (o_new (fun g => (.pointer (some ⟨g, 0, none⟩))) [(.int .i64 0), (.slice none 0 0), (.int .i64 0)] 29 F17 rfl rfl rfl rfl (by kernel_rfl) ?_)
 intro g18 w19 a24 F25 z22 z23 b20 hx21; clear F17
 refine wpl_op (i := 3) rfl (o_new (fun g => (.pointer (some ⟨g, 0, none⟩))) [(.slice none 0 0), (.slice none 0 0), (.int .i64 0), (.bool false)] 25 F25 rfl rfl rfl rfl (by kernel_rfl) ?_)
 intro g26 w27 a32 F33 z30 z31 b28 hx29; clear F25
 refine qv 4 (.int .i64 0) F33 rfl (rn_assign rfl) fun _ F35 => ?_; clear F33
 refine wpList_nil ?_
 refine hK1 _ _ ?_
 clear hK1
 refine wp_seq_k (fun K36 hK36 => ?_)
 refine wp_seq_k (fun K37 hK37 => ?_)
 refine wp_region_lit ?_
 have b38 := (((b4.ext hx13).ext hx21).ext hx29)
 refine qv 0 (.agg #[(.int .i64 m), (.slice A R.length c), (.int .i64 s)]) F35 rfl (rn_loadBlk (F35.get rfl) b38 Try.underlying29 rfl inf29) fun _ F40 => ?_; clear F35
 have d41 := ((((hnc.ext hx5).ext hx13).ext hx21).ext hx29)
 refine wpl_op (i := 1) rfl (o_call F40 rfl rfl rfl rfl (rn_call (args1 (F40.get rfl)) rfl (by kernel_rfl)) (chk_at (v := (.slice A R.length c)) m R s _ d41 hb) ?_)
 rintro _ w42 ⟨rfl, hx43⟩
 refine ⟨_, rfl, ?_⟩; intro a44 F45; clear F40; have z46 := hx43.size
 refine qv 2 (.int .i64 ((Lg.mk m R s).check)) F45 rfl (rn_assign (F45.get rfl)) fun _ F48 => ?_; clear F45
 refine wpList_nil ?_
 refine hK37 _ _ ?_
 clear hK37
 refine wp_seq_k (fun K49 hK49 => ?_)
 refine wp_region_lit ?_
 refine qv 0 (.int .i64 ((Lg.mk m R s).check)) F48 rfl (rn_move (F48.get rfl)) fun _ F51 => ?_; clear F48
 refine qv 1 (.bool (decide (((Lg.mk m R s).check : Int) ≠ (0 : Int)))) F51 rfl (rn_neq (F51.get rfl) rfl) fun _ F53 => ?_; clear F51
 refine wpList_nil ?_
 refine hK49 _ _ ?_
 clear hK49
 by_cases hc54 : ((Lg.mk m R s).check : Int) ≠ (0 : Int)
 ·skip
  have hlc : (Lg.mk m R s).check ≠ 0 := hc54
  refine wp_cond_true (c_true F53 rfl (decide_eq_true hc54)) ?_
  refine wp_seq_k (fun K55 hK55 => ?_)
  refine wp_region_lit ?_
  refine qv 0 (.agg #[(.int .i64 0), (.slice none 0 0), (.int .i64 0)]) F53 rfl (rn_build (parts0 ) (by kernel_rfl)) fun _ F57 => ?_; clear F53
  refine qv 1 (.agg #[(.slice none 0 0), (.slice none 0 0), (.int .i64 0), (.bool false)]) F57 rfl (rn_build (parts0 ) (by kernel_rfl)) fun _ F59 => ?_; clear F57
  refine qv 2 (.int .i64 ((Lg.mk m R s).check)) F59 rfl (rn_move (F59.get rfl)) fun _ F61 => ?_; clear F59
  have b65 := ((b20.ext hx29).ext hx43)
  refine wpl_op (i := 3) rfl (o_store (cells := [(.int .i64 0), (.slice none 0 0), (.int .i64 0)]) F61 rfl rfl rfl rfl (F61.get rfl) (F61.get rfl) b65 inf29 rfl (by simp [Value.oneCell']) ?_)
  intro w62 b63 hg64; have z66 := hg64.size
  have b70 := ((b28.ext hx43).grownN hg64 (by omega))
  refine wpl_op (i := 4) rfl (o_store (cells := [(.slice none 0 0), (.slice none 0 0), (.int .i64 0), (.bool false)]) F61 rfl rfl rfl rfl (F61.get rfl) (F61.get rfl) b70 inf25 rfl (by simp [Value.oneCell']) ?_)
  intro w67 b68 hg69; have z71 := hg69.size
  refine qv 5 (.int .i64 ((Lg.mk m R s).check)) F61 rfl (rn_assign (F61.get rfl)) fun _ F73 => ?_; clear F61
  refine wpList_nil ?_
  refine hK55 _ _ ?_
  clear hK55
  have F74 := (((((((((F73.nil.c F73 22 rfl).c F73 7 rfl).c F73 6 rfl).c F73 5 rfl).c F73 4 rfl).c F73 3 rfl).c F73 2 rfl).c F73 1 rfl).c F73 0 rfl)
  clear F73
  refine wp_ret ?_
  refine ret_then ?_
  have b75 := (b63.grownN hg69 (by omega))
  refine retCC1 F74 rfl rfl rfl rfl b75 Try.underlying29 rfl inf29 b68 Try.underlying25 rfl inf25 ?_
  exact lsync_err (sync_1 hlc) ((((((((Ext.refl w).trans hx5).trans hx13).trans hx21).trans hx29).trans hx43).grownN hg64 (by omega)).grownN hg69 (by omega))
 ·skip
  have hlc : (Lg.mk m R s).check = 0 := Decidable.not_not.1 hc54
  obtain ⟨hm1, hm2, hs1, hs2, -⟩ : 1 ≤ m ∧ m ≤ 4096 ∧ 0 ≤ s ∧ s ≤ (R.length : Nat) ∧ usedW R ≤ m := check_facts hlc
  refine wp_cond_false (c_false F53 rfl (decide_eq_false hc54)) ?_
  refine wp_skip ?_
  refine hK36 _ _ ?_
  clear hK36
  refine wp_seq_k (fun K76 hK76 => ?_)
  refine wp_seq_k (fun K77 hK77 => ?_)
  refine wp_region_lit ?_
  have b78 := (((b12.ext hx21).ext hx29).ext hx43)
  refine qv 0 (.agg #[(.slice X d.sectors.length x), (.slice Y d.pending.length y), (.int .i64 d.left), (.bool d.stopped)]) F53 rfl (rn_loadBlk (F53.get rfl) b78 Try.underlying25 rfl inf25) fun _ F80 => ?_; clear F53
  have d81 := (((((hdc.ext hx5).ext hx13).ext hx21).ext hx29).ext hx43)
  refine wpl_op (i := 1) rfl (o_call F80 rfl rfl rfl rfl (rn_call (args1 (F80.get rfl)) rfl (by kernel_rfl)) (check_any (S := (Clip S w)) _ d _ d81) ?_)
  rintro _ w82 ⟨rfl, hx83⟩
  refine ⟨_, rfl, ?_⟩; intro a84 F85; clear F80; have z86 := hx83.size
  refine qv 2 (.int .i64 d.check) F85 rfl (rn_assign (F85.get rfl)) fun _ F88 => ?_; clear F85
  refine wpList_nil ?_
  refine hK77 _ _ ?_
  clear hK77
  have F89 := ((((((((((F88.nil.c F88 8 rfl).c F88 22 rfl).c F88 7 rfl).c F88 6 rfl).c F88 5 rfl).c F88 4 rfl).c F88 3 rfl).c F88 2 rfl).c F88 1 rfl).c F88 0 rfl)
  clear F88
  refine wp_seq_k (fun K90 hK90 => ?_)
  refine wp_region_lit ?_
  refine qv 0 (.int .i64 d.check) F89 rfl (rn_move (F89.get rfl)) fun _ F92 => ?_; clear F89
  refine qv 1 (.bool (decide ((d.check : Int) ≠ (0 : Int)))) F92 rfl (rn_neq (F92.get rfl) rfl) fun _ F94 => ?_; clear F92
  refine wpList_nil ?_
  refine hK90 _ _ ?_
  clear hK90
  by_cases hc95 : (d.check : Int) ≠ (0 : Int)
  ·skip
   have hdz : d.check ≠ 0 := hc95
   refine wp_cond_true (c_true F94 rfl (decide_eq_true hc95)) ?_
   refine wp_seq_k (fun K96 hK96 => ?_)
   refine wp_region_lit ?_
   refine qv 0 (.agg #[(.int .i64 0), (.slice none 0 0), (.int .i64 0)]) F94 rfl (rn_build (parts0 ) (by kernel_rfl)) fun _ F98 => ?_; clear F94
   refine qv 1 (.agg #[(.slice none 0 0), (.slice none 0 0), (.int .i64 0), (.bool false)]) F98 rfl (rn_build (parts0 ) (by kernel_rfl)) fun _ F100 => ?_; clear F98
   refine qv 2 (.int .i64 d.check) F100 rfl (rn_move (F100.get rfl)) fun _ F102 => ?_; clear F100
   have b106 := (((b20.ext hx29).ext hx43).ext hx83)
   refine wpl_op (i := 3) rfl (o_store (cells := [(.int .i64 0), (.slice none 0 0), (.int .i64 0)]) F102 rfl rfl rfl rfl (F102.get rfl) (F102.get rfl) b106 inf29 rfl (by simp [Value.oneCell']) ?_)
   intro w103 b104 hg105; have z107 := hg105.size
   have b111 := (((b28.ext hx43).ext hx83).grownN hg105 (by omega))
   refine wpl_op (i := 4) rfl (o_store (cells := [(.slice none 0 0), (.slice none 0 0), (.int .i64 0), (.bool false)]) F102 rfl rfl rfl rfl (F102.get rfl) (F102.get rfl) b111 inf25 rfl (by simp [Value.oneCell']) ?_)
   intro w108 b109 hg110; have z112 := hg110.size
   refine qv 5 (.int .i64 d.check) F102 rfl (rn_assign (F102.get rfl)) fun _ F114 => ?_; clear F102
   refine wpList_nil ?_
   refine hK96 _ _ ?_
   clear hK96
   have F115 := (((((((((((F114.nil.c F114 29 rfl).c F114 8 rfl).c F114 22 rfl).c F114 7 rfl).c F114 6 rfl).c F114 5 rfl).c F114 4 rfl).c F114 3 rfl).c F114 2 rfl).c F114 1 rfl).c F114 0 rfl)
   clear F114
   refine wp_ret ?_
   refine ret_then ?_
   have b116 := (b104.grownN hg110 (by omega))
   refine retCC1 F115 rfl rfl rfl rfl b116 Try.underlying29 rfl inf29 b109 Try.underlying25 rfl inf25 ?_
   exact lsync_err (sync_2 hlc hdz) (((((((((Ext.refl w).trans hx5).trans hx13).trans hx21).trans hx29).trans hx43).trans hx83).grownN hg105 (by omega)).grownN hg110 (by omega))
  ·skip
   have hdz : d.check = 0 := Decidable.not_not.1 hc95
   refine wp_cond_false (c_false F94 rfl (decide_eq_false hc95)) ?_
   refine wp_skip ?_
   refine hK76 _ _ ?_
   clear hK76
   refine wp_seq_k (fun K117 hK117 => ?_)
   refine wp_seq_k (fun K118 hK118 => ?_)
   refine wp_region_lit ?_
   refine qv 0 (.pointer (some ⟨g2, 0, none⟩)) F94 rfl (rn_field Try.underlying29 rfl (by kernel_rfl) (F94.get rfl) rfl) fun _ F120 => ?_; clear F94
   have b121 := ((b38.ext hx43).ext hx83)
   refine qv 1 (.int .i64 m) F120 rfl (rn_load (isAgg_no Try.underlying3 rfl) (F120.get rfl) (b121.rule.1 0)) fun _ F123 => ?_; clear F120
   refine qv 2 (.pointer (some ⟨g10, 0, none⟩)) F123 rfl (rn_field Try.underlying25 rfl (by kernel_rfl) (F123.get rfl) rfl) fun _ F125 => ?_; clear F123
   have b126 := (b78.ext hx83)
   refine qv 3 (.slice X d.sectors.length x) F125 rfl (rn_load (isAgg_no Try.underlying22 rfl) (F125.get rfl) (b126.rule.1 0)) fun _ F128 => ?_; clear F125
   refine qv 4 (.int .i64 (d.sectors.length : Nat)) F128 rfl (rn_len_slice Try.underlying22 (F128.get rfl)) fun _ F130 => ?_; clear F128
   refine qv 5 (.bool (decide ((m : Int) ≠ ((d.sectors.length : Nat) : Int)))) F130 rfl (rn_neq (F130.get rfl) (F130.get rfl)) fun _ F132 => ?_; clear F130
   refine qv 6 (.bool (decide ((m : Int) ≠ ((d.sectors.length : Nat) : Int)))) F132 rfl (rn_move (F132.get rfl)) fun _ F134 => ?_; clear F132
   by_cases hc135 : (m : Int) ≠ ((d.sectors.length : Nat) : Int)
   ·skip
    have hmn : m ≠ (d.sectors.length : Nat) := hc135
    refine qg 7 (.pointer (some ⟨g10, 3, none⟩)) F134 (decide_eq_true hc135) (rn_field Try.underlying25 rfl (by kernel_rfl) (F134.get rfl) rfl) fun _ F137 => ?_; clear F134
    refine qg 8 (.bool d.stopped) F137 (decide_eq_true hc135) (rn_load (isAgg_no Try.underlying4 rfl) (F137.get rfl) (b126.rule.1 3)) fun _ F139 => ?_; clear F137
    refine qg 9 (.bool (!d.stopped)) F139 (decide_eq_true hc135) (rn_not' (F139.get rfl) rfl) fun _ F141 => ?_; clear F139
    refine qv 10 (.bool (!d.stopped)) F141 rfl (rn_pickT (c_true F141 rfl (decide_eq_true hc135)) (F141.get rfl)) fun _ F143 => ?_; clear F141
    refine wpList_nil ?_
    refine hK118 _ _ ?_
    clear hK118
    have F144 := ((((((((((((F143.nil.c F143 43 rfl).c F143 29 rfl).c F143 8 rfl).c F143 22 rfl).c F143 7 rfl).c F143 6 rfl).c F143 5 rfl).c F143 4 rfl).c F143 3 rfl).c F143 2 rfl).c F143 1 rfl).c F143 0 rfl)
    clear F143
    rcases Bool.eq_false_or_eq_true d.stopped with hc145 | hc145
    ·skip
     have hst := hc145
     refine wp_cond_false (c_false F144 rfl (not_t hc145)) ?_
     refine wp_skip ?_
     refine hK117 _ _ ?_
     clear hK117
     refine wp_seq_k (fun K146 hK146 => ?_)
     refine wp_region_lit ?_
     refine qv 0 (.agg #[(.slice X d.sectors.length x), (.slice Y d.pending.length y), (.int .i64 d.left), (.bool d.stopped)]) F144 rfl (rn_loadBlk (F144.get rfl) b126 Try.underlying25 rfl inf25) fun _ F148 => ?_; clear F144
     have d149 := ((((((hdc.ext hx5).ext hx13).ext hx21).ext hx29).ext hx43).ext hx83)
     refine wpl_op (i := 1) rfl (o_call F148 rfl rfl rfl rfl (rn_call (args1 (F148.get rfl)) rfl (by kernel_rfl)) (open_at (v := (.agg #[(.slice X d.sectors.length x), (.slice Y d.pending.length y), (.int .i64 d.left), (.bool d.stopped)])) d _ d149) ?_)
     rintro _ w153 ⟨A150, c151, rfl, hb152, hx154⟩
     refine ⟨_, rfl, ?_⟩; intro a155 F156; clear F148; have z157 := hx154.size
     have hf158 := RBss.clip hb152
     obtain ⟨-, z159, z160⟩ := RBss.at hb152
     refine qv 2 (.tuple #[(.agg #[(.int .i64 (openM d)), (.slice A150 ((openR d).length) c151), (.int .i64 ((openR d).length : Nat))]), (.int .i64 (openE d))]) F156 rfl (rn_move (F156.get rfl)) fun _ F162 => ?_; clear F156
     refine qv 3 (.agg #[(.int .i64 (openM d)), (.slice A150 ((openR d).length) c151), (.int .i64 ((openR d).length : Nat))]) F162 rfl (rn_extract (F162.get rfl) rfl) fun _ F164 => ?_; clear F162
     refine qv 4 (.int .i64 (openE d)) F164 rfl (rn_extract (F164.get rfl) rfl) fun _ F166 => ?_; clear F164
     refine wpl_op (i := 5) rfl (o_new (fun g => (.pointer (some ⟨g, 0, none⟩))) [(.int .i64 0), (.slice none 0 0), (.int .i64 0)] 29 F166 rfl rfl rfl rfl (by kernel_rfl) ?_)
     intro g167 w168 a173 F174 z171 z172 b169 hx170; clear F166
     refine wpl_op (i := 6) rfl (o_store (cells := [(.int .i64 (openM d)), (.slice A150 ((openR d).length) c151), (.int .i64 ((openR d).length : Nat))]) F174 rfl rfl rfl rfl (F174.get rfl) (F174.get rfl) b169 inf29 rfl (by simp [Value.oneCell']) ?_)
     intro w175 b176 hg177; have z178 := hg177.size
     refine qv 7 (.int .i64 (openE d)) F174 rfl (rn_assign (F174.get rfl)) fun _ F180 => ?_; clear F174
     refine wpList_nil ?_
     refine hK146 _ _ ?_
     clear hK146
     have F181 := (((((((((((((F180.nil.c F180 9 rfl).c F180 43 rfl).c F180 29 rfl).c F180 8 rfl).c F180 22 rfl).c F180 7 rfl).c F180 6 rfl).c F180 5 rfl).c F180 4 rfl).c F180 3 rfl).c F180 2 rfl).c F180 1 rfl).c F180 0 rfl)
     clear F180
     refine wp_seq_k (fun K182 hK182 => ?_)
     refine wp_seq_k (fun K183 hK183 => ?_)
     refine wp_region_lit ?_
     refine qv 0 (.int .i64 (openE d)) F181 rfl (rn_move (F181.get rfl)) fun _ F185 => ?_; clear F181
     refine qv 1 (.bool (decide (((openE d) : Int) ≠ (0 : Int)))) F185 rfl (rn_neq (F185.get rfl) rfl) fun _ F187 => ?_; clear F185
     refine wpList_nil ?_
     refine hK183 _ _ ?_
     clear hK183
     by_cases hc188 : ((openE d) : Int) ≠ (0 : Int)
     ·skip
      have hop : openE d ≠ 0 := hc188
      refine wp_cond_true (c_true F187 rfl (decide_eq_true hc188)) ?_
      refine wp_seq_k (fun K189 hK189 => ?_)
      refine wp_region_lit ?_
      refine qv 0 (.agg #[(.int .i64 0), (.slice none 0 0), (.int .i64 0)]) F187 rfl (rn_build (parts0 ) (by kernel_rfl)) fun _ F191 => ?_; clear F187
      refine qv 1 (.agg #[(.slice none 0 0), (.slice none 0 0), (.int .i64 0), (.bool false)]) F191 rfl (rn_build (parts0 ) (by kernel_rfl)) fun _ F193 => ?_; clear F191
      refine qv 2 (.int .i64 (openE d)) F193 rfl (rn_move (F193.get rfl)) fun _ F195 => ?_; clear F193
      have b199 := ((((((b20.ext hx29).ext hx43).ext hx83).ext hx154).ext hx170).grownN hg177 (by omega))
      refine wpl_op (i := 3) rfl (o_store (cells := [(.int .i64 0), (.slice none 0 0), (.int .i64 0)]) F195 rfl rfl rfl rfl (F195.get rfl) (F195.get rfl) b199 inf29 rfl (by simp [Value.oneCell']) ?_)
      intro w196 b197 hg198; have z200 := hg198.size
      have b204 := ((((((b28.ext hx43).ext hx83).ext hx154).ext hx170).grownN hg177 (by omega)).grownN hg198 (by omega))
      refine wpl_op (i := 4) rfl (o_store (cells := [(.slice none 0 0), (.slice none 0 0), (.int .i64 0), (.bool false)]) F195 rfl rfl rfl rfl (F195.get rfl) (F195.get rfl) b204 inf25 rfl (by simp [Value.oneCell']) ?_)
      intro w201 b202 hg203; have z205 := hg203.size
      refine qv 5 (.int .i64 (openE d)) F195 rfl (rn_assign (F195.get rfl)) fun _ F207 => ?_; clear F195
      refine wpList_nil ?_
      refine hK189 _ _ ?_
      clear hK189
      have F208 := ((((((((((((((F207.nil.c F207 52 rfl).c F207 9 rfl).c F207 43 rfl).c F207 29 rfl).c F207 8 rfl).c F207 22 rfl).c F207 7 rfl).c F207 6 rfl).c F207 5 rfl).c F207 4 rfl).c F207 3 rfl).c F207 2 rfl).c F207 1 rfl).c F207 0 rfl)
      clear F207
      refine wp_ret ?_
      refine ret_then ?_
      have b209 := (b197.grownN hg203 (by omega))
      refine retCC1 F208 rfl rfl rfl rfl b209 Try.underlying29 rfl inf29 b202 Try.underlying25 rfl inf25 ?_
      exact lsync_err (sync_4 hlc hdz (by first | exact .inl hst | exact .inr (by show m = _; omega)) hop) ((((((((((((Ext.refl w).trans hx5).trans hx13).trans hx21).trans hx29).trans hx43).trans hx83).trans hx154).trans hx170).grownN hg177 (by omega)).grownN hg198 (by omega)).grownN hg203 (by omega))
     ·skip
      have hop : openE d = 0 := Decidable.not_not.1 hc188
      exact absurd ((many_of hop).2.1.symm.trans hst) (by decide)
    ·skip
     have hst := hc145
     refine wp_cond_true (c_true F144 rfl (not_f hc145)) ?_
     refine wp_seq_k (fun K210 hK210 => ?_)
     refine wp_region_lit ?_
     refine qv 0 (.agg #[(.int .i64 0), (.slice none 0 0), (.int .i64 0)]) F144 rfl (rn_build (parts0 ) (by kernel_rfl)) fun _ F212 => ?_; clear F144
     refine qv 1 (.agg #[(.slice none 0 0), (.slice none 0 0), (.int .i64 0), (.bool false)]) F212 rfl (rn_build (parts0 ) (by kernel_rfl)) fun _ F214 => ?_; clear F212
     have b218 := (((b20.ext hx29).ext hx43).ext hx83)
     refine wpl_op (i := 2) rfl (o_store (cells := [(.int .i64 0), (.slice none 0 0), (.int .i64 0)]) F214 rfl rfl rfl rfl (F214.get rfl) (F214.get rfl) b218 inf29 rfl (by simp [Value.oneCell']) ?_)
     intro w215 b216 hg217; have z219 := hg217.size
     have b223 := (((b28.ext hx43).ext hx83).grownN hg217 (by omega))
     refine wpl_op (i := 3) rfl (o_store (cells := [(.slice none 0 0), (.slice none 0 0), (.int .i64 0), (.bool false)]) F214 rfl rfl rfl rfl (F214.get rfl) (F214.get rfl) b223 inf25 rfl (by simp [Value.oneCell']) ?_)
     intro w220 b221 hg222; have z224 := hg222.size
     refine qv 4 (.int .i64 1) F214 rfl (rn_assign rfl) fun _ F226 => ?_; clear F214
     refine wpList_nil ?_
     refine hK210 _ _ ?_
     clear hK210
     refine wp_ret ?_
     refine ret_then ?_
     have b227 := (b216.grownN hg222 (by omega))
     refine retCC1 F226 rfl rfl rfl rfl b227 Try.underlying29 rfl inf29 b221 Try.underlying25 rfl inf25 ?_
     exact lsync_err (sync_3 hlc hdz hst hmn) (((((((((Ext.refl w).trans hx5).trans hx13).trans hx21).trans hx29).trans hx43).trans hx83).grownN hg217 (by omega)).grownN hg222 (by omega))
   ·skip
    have hmn : m = (d.sectors.length : Nat) := Decidable.not_not.1 hc135
    refine qu 7 F134 (decide_eq_false hc135) fun _ F229 => ?_; clear F134
    refine qu 8 F229 (decide_eq_false hc135) fun _ F231 => ?_; clear F229
    refine qu 9 F231 (decide_eq_false hc135) fun _ F233 => ?_; clear F231
    refine qv 10 (.bool false) F233 rfl (rn_pickF (c_false F233 rfl (decide_eq_false hc135)) rfl) fun _ F235 => ?_; clear F233
    refine wpList_nil ?_
    refine hK118 _ _ ?_
    clear hK118
    have F236 := ((((((((((((F235.nil.c F235 43 rfl).c F235 29 rfl).c F235 8 rfl).c F235 22 rfl).c F235 7 rfl).c F235 6 rfl).c F235 5 rfl).c F235 4 rfl).c F235 3 rfl).c F235 2 rfl).c F235 1 rfl).c F235 0 rfl)
    clear F235
    refine wp_cond_false (c_false F236 rfl rfl) ?_
    refine wp_skip ?_
    refine hK117 _ _ ?_
    clear hK117
    refine wp_seq_k (fun K237 hK237 => ?_)
    refine wp_region_lit ?_
    refine qv 0 (.agg #[(.slice X d.sectors.length x), (.slice Y d.pending.length y), (.int .i64 d.left), (.bool d.stopped)]) F236 rfl (rn_loadBlk (F236.get rfl) b126 Try.underlying25 rfl inf25) fun _ F239 => ?_; clear F236
    have d240 := ((((((hdc.ext hx5).ext hx13).ext hx21).ext hx29).ext hx43).ext hx83)
    refine wpl_op (i := 1) rfl (o_call F239 rfl rfl rfl rfl (rn_call (args1 (F239.get rfl)) rfl (by kernel_rfl)) (open_at (v := (.agg #[(.slice X d.sectors.length x), (.slice Y d.pending.length y), (.int .i64 d.left), (.bool d.stopped)])) d _ d240) ?_)
    rintro _ w244 ⟨A241, c242, rfl, hb243, hx245⟩
    refine ⟨_, rfl, ?_⟩; intro a246 F247; clear F239; have z248 := hx245.size
    have hf249 := RBss.clip hb243
    obtain ⟨-, z250, z251⟩ := RBss.at hb243
    refine qv 2 (.tuple #[(.agg #[(.int .i64 (openM d)), (.slice A241 ((openR d).length) c242), (.int .i64 ((openR d).length : Nat))]), (.int .i64 (openE d))]) F247 rfl (rn_move (F247.get rfl)) fun _ F253 => ?_; clear F247
    refine qv 3 (.agg #[(.int .i64 (openM d)), (.slice A241 ((openR d).length) c242), (.int .i64 ((openR d).length : Nat))]) F253 rfl (rn_extract (F253.get rfl) rfl) fun _ F255 => ?_; clear F253
    refine qv 4 (.int .i64 (openE d)) F255 rfl (rn_extract (F255.get rfl) rfl) fun _ F257 => ?_; clear F255
    refine wpl_op (i := 5) rfl (o_new (fun g => (.pointer (some ⟨g, 0, none⟩))) [(.int .i64 0), (.slice none 0 0), (.int .i64 0)] 29 F257 rfl rfl rfl rfl (by kernel_rfl) ?_)
    intro g258 w259 a264 F265 z262 z263 b260 hx261; clear F257
    refine wpl_op (i := 6) rfl (o_store (cells := [(.int .i64 (openM d)), (.slice A241 ((openR d).length) c242), (.int .i64 ((openR d).length : Nat))]) F265 rfl rfl rfl rfl (F265.get rfl) (F265.get rfl) b260 inf29 rfl (by simp [Value.oneCell']) ?_)
    intro w266 b267 hg268; have z269 := hg268.size
    refine qv 7 (.int .i64 (openE d)) F265 rfl (rn_assign (F265.get rfl)) fun _ F271 => ?_; clear F265
    refine wpList_nil ?_
    refine hK237 _ _ ?_
    clear hK237
    have F272 := (((((((((((((F271.nil.c F271 9 rfl).c F271 43 rfl).c F271 29 rfl).c F271 8 rfl).c F271 22 rfl).c F271 7 rfl).c F271 6 rfl).c F271 5 rfl).c F271 4 rfl).c F271 3 rfl).c F271 2 rfl).c F271 1 rfl).c F271 0 rfl)
    clear F271
    refine wp_seq_k (fun K273 hK273 => ?_)
    refine wp_seq_k (fun K274 hK274 => ?_)
    refine wp_region_lit ?_
    refine qv 0 (.int .i64 (openE d)) F272 rfl (rn_move (F272.get rfl)) fun _ F276 => ?_; clear F272
    refine qv 1 (.bool (decide (((openE d) : Int) ≠ (0 : Int)))) F276 rfl (rn_neq (F276.get rfl) rfl) fun _ F278 => ?_; clear F276
    refine wpList_nil ?_
    refine hK274 _ _ ?_
    clear hK274
    by_cases hc279 : ((openE d) : Int) ≠ (0 : Int)
    ·skip
     have hop : openE d ≠ 0 := hc279
     refine wp_cond_true (c_true F278 rfl (decide_eq_true hc279)) ?_
     refine wp_seq_k (fun K280 hK280 => ?_)
     refine wp_region_lit ?_
     refine qv 0 (.agg #[(.int .i64 0), (.slice none 0 0), (.int .i64 0)]) F278 rfl (rn_build (parts0 ) (by kernel_rfl)) fun _ F282 => ?_; clear F278
     refine qv 1 (.agg #[(.slice none 0 0), (.slice none 0 0), (.int .i64 0), (.bool false)]) F282 rfl (rn_build (parts0 ) (by kernel_rfl)) fun _ F284 => ?_; clear F282
     refine qv 2 (.int .i64 (openE d)) F284 rfl (rn_move (F284.get rfl)) fun _ F286 => ?_; clear F284
     have b290 := ((((((b20.ext hx29).ext hx43).ext hx83).ext hx245).ext hx261).grownN hg268 (by omega))
     refine wpl_op (i := 3) rfl (o_store (cells := [(.int .i64 0), (.slice none 0 0), (.int .i64 0)]) F286 rfl rfl rfl rfl (F286.get rfl) (F286.get rfl) b290 inf29 rfl (by simp [Value.oneCell']) ?_)
     intro w287 b288 hg289; have z291 := hg289.size
     have b295 := ((((((b28.ext hx43).ext hx83).ext hx245).ext hx261).grownN hg268 (by omega)).grownN hg289 (by omega))
     refine wpl_op (i := 4) rfl (o_store (cells := [(.slice none 0 0), (.slice none 0 0), (.int .i64 0), (.bool false)]) F286 rfl rfl rfl rfl (F286.get rfl) (F286.get rfl) b295 inf25 rfl (by simp [Value.oneCell']) ?_)
     intro w292 b293 hg294; have z296 := hg294.size
     refine qv 5 (.int .i64 (openE d)) F286 rfl (rn_assign (F286.get rfl)) fun _ F298 => ?_; clear F286
     refine wpList_nil ?_
     refine hK280 _ _ ?_
     clear hK280
     have F299 := ((((((((((((((F298.nil.c F298 52 rfl).c F298 9 rfl).c F298 43 rfl).c F298 29 rfl).c F298 8 rfl).c F298 22 rfl).c F298 7 rfl).c F298 6 rfl).c F298 5 rfl).c F298 4 rfl).c F298 3 rfl).c F298 2 rfl).c F298 1 rfl).c F298 0 rfl)
     clear F298
     refine wp_ret ?_
     refine ret_then ?_
     have b300 := (b288.grownN hg294 (by omega))
     refine retCC1 F299 rfl rfl rfl rfl b300 Try.underlying29 rfl inf29 b293 Try.underlying25 rfl inf25 ?_
     exact lsync_err (sync_4 hlc hdz (by first | exact .inl hst | exact .inr (by show m = _; omega)) hop) ((((((((((((Ext.refl w).trans hx5).trans hx13).trans hx21).trans hx29).trans hx43).trans hx83).trans hx245).trans hx261).grownN hg268 (by omega)).grownN hg289 (by omega)).grownN hg294 (by omega))
    ·skip
     have hop : openE d = 0 := Decidable.not_not.1 hc279
     obtain ⟨-, hst0, -⟩ := many_of hop; have hrun := runs_of_check hdz hst0; obtain ⟨-, hl, -, -, -, -, -, hL⟩ := runs_facts hrun; have hopr := (open_good hop).1
     refine wp_cond_false (c_false F278 rfl (decide_eq_false hc279)) ?_
     refine wp_skip ?_
     refine hK273 _ _ ?_
     clear hK273
     refine wp_seq_k (fun K301 hK301 => ?_)
     refine wp_region_lit ?_
     refine qv 0 (.int .u64 1) F278 rfl (rn_assign rfl) fun _ F303 => ?_; clear F278
     refine wpList_nil ?_
     refine hK301 _ _ ?_
     clear hK301
     refine wp_seq_k (fun K304 hK304 => ?_)
     refine wp_seq_k (fun K305 hK305 => ?_)
     refine wp_region_lit ?_
     refine qv 0 (.pointer (some ⟨g10, 0, none⟩)) F303 rfl (rn_field Try.underlying25 rfl (by kernel_rfl) (F303.get rfl) rfl) fun _ F307 => ?_; clear F303
     have b308 := (((b126.ext hx245).ext hx261).grownN hg268 (by omega))
     refine qv 1 (.slice X d.sectors.length x) F307 rfl (rn_load (isAgg_no Try.underlying22 rfl) (F307.get rfl) (b308.rule.1 0)) fun _ F310 => ?_; clear F307
     refine qv 2 (.int .i64 (d.sectors.length : Nat)) F310 rfl (rn_len_slice Try.underlying22 (F310.get rfl)) fun _ F312 => ?_; clear F310
     refine qv 3 (.int .i64 0) F312 rfl (rn_move rfl) fun _ F314 => ?_; clear F312
     refine wpList_nil ?_
     refine hK305 _ _ ?_
     clear hK305
     refine wp_block ?_
     have d315 := (hf249.pres (((Pres.refl w244).ext hx261).grownN hg268 (fun h => by simp only [Clip] at h; omega)))
     have b316 := (((b121.ext hx245).ext hx261).grownN hg268 (by omega))
     have b317 := ((((((b20.ext hx29).ext hx43).ext hx83).ext hx245).ext hx261).grownN hg268 (by omega))
     have b318 := (((((b28.ext hx43).ext hx83).ext hx245).ext hx261).grownN hg268 (by omega))
     refine wp_loop (fun a' W => ∃ (kg : Nat) (g : Nat), Sl 167 [(0, (.agg #[(.int .i64 m), (.slice A R.length c), (.int .i64 s)])), (1, (.agg #[(.slice X d.sectors.length x), (.slice Y d.pending.length y), (.int .i64 d.left), (.bool d.stopped)])), (2, (.pointer (some ⟨g2, 0, none⟩))), (3, (.pointer (some ⟨g10, 0, none⟩))), (4, (.pointer (some ⟨g18, 0, none⟩))), (5, (.pointer (some ⟨g26, 0, none⟩))), (6, (.int .i64 (openE d))), (7, (.int .i64 ((Lg.mk m R s).check))), (22, (.bool (decide (((Lg.mk m R s).check : Int) ≠ (0 : Int))))), (8, (.int .i64 d.check)), (29, (.bool (decide ((d.check : Int) ≠ (0 : Int))))), (43, (.bool false)), (9, (.pointer (some ⟨g258, 0, none⟩))), (52, (.bool (decide (((openE d) : Int) ≠ (0 : Int))))), (10, (.int .u64 (g : Nat))), (57, (.slice X d.sectors.length x)), (58, (.int .i64 (d.sectors.length : Nat))), (59, (.int .i64 (kg : Nat)))] a' ∧ kg ≤ d.sectors.length ∧ g = maxG (d.sectors.take kg) + 1 ∧ Ext w W ∧ Blk W g2 29 [(.int .i64 m), (.slice A R.length c), (.int .i64 s)] ∧ Blk W g10 25 [(.slice X d.sectors.length x), (.slice Y d.pending.length y), (.int .i64 d.left), (.bool d.stopped)] ∧ Blk W g18 29 [(.int .i64 0), (.slice none 0 0), (.int .i64 0)] ∧ Blk W g26 25 [(.slice none 0 0), (.slice none 0 0), (.int .i64 0), (.bool false)] ∧ Blk W g258 29 [(.int .i64 (openM d)), (.slice A241 ((openR d).length) c242), (.int .i64 ((openR d).length : Nat))] ∧ RBss (Clip (fun b => w82.heap.size ≤ b) w244) W (.slice A241 ((openR d).length) c242) (openR d) ∧ w266.heap.size ≤ W.heap.size) (fun a' _ => d.sectors.length - (intOf (a'.eval (.tmp 59))).toNat) ⟨0, 1, ((((((((((((((((((F314.nil.cons (q_get F314 (t := 59) rfl (by first | with_reducible rfl | (rw [hop]; done) | (congr 1; omega) | (congr 1; simp only [List.length_append, List.length_cons, List.length_nil]; omega) | rfl))).cons (q_get F314 (t := 58) rfl rfl)).cons (q_get F314 (t := 57) rfl rfl)).cons (q_get F314 (t := 10) rfl (by first | with_reducible rfl | (rw [hop]; done) | (congr 1; omega) | (congr 1; simp only [List.length_append, List.length_cons, List.length_nil]; omega) | rfl))).cons (q_get F314 (t := 52) rfl rfl)).cons (q_get F314 (t := 9) rfl rfl)).cons (q_get F314 (t := 43) rfl rfl)).cons (q_get F314 (t := 29) rfl rfl)).cons (q_get F314 (t := 8) rfl rfl)).cons (q_get F314 (t := 22) rfl rfl)).cons (q_get F314 (t := 7) rfl rfl)).cons (q_get F314 (t := 6) rfl rfl)).cons (q_get F314 (t := 5) rfl rfl)).cons (q_get F314 (t := 4) rfl rfl)).cons (q_get F314 (t := 3) rfl rfl)).cons (q_get F314 (t := 2) rfl rfl)).cons (q_get F314 (t := 1) rfl rfl)).cons (q_get F314 (t := 0) rfl rfl)), (by omega), rfl, ((((((((((Ext.refl w).trans hx5).trans hx13).trans hx21).trans hx29).trans hx43).trans hx83).trans hx245).trans hx261).grownN hg268 (by omega)), b316, b308, b317, b318, b267, d315, (Nat.le_refl _)⟩ ?_
     clear F314
     rintro a319 w320 ⟨kg, g, F321, hp323, hp324, hx322, b325, b326, b327, b328, b329, hf330, hf331⟩
     have hL332 := F321
     have z333 := hx322.size
     have z334 := b325.lt
     have z335 := b326.lt
     have z336 := b327.lt
     have z337 := b328.lt
     have z338 := b329.lt
     have hm : g < 4294967297 := by rw [hp324]; exact Nat.succ_lt_succ (maxG_lt fun x hx => hL x (List.mem_of_mem_take hx))
     refine wp_seq_k (fun K339 hK339 => ?_)
     refine wp_region_lit ?_
     refine qv 0 (.bool (decide (((kg : Nat) : Int) < ((d.sectors.length : Nat) : Int)))) F321 rfl (rn_lss (F321.get rfl) (F321.get rfl)) fun _ F341 => ?_; clear F321
     refine wpList_nil ?_
     refine hK339 _ _ ?_
     clear hK339
     refine wp_seq_k (fun K342 hK342 => ?_)
     by_cases hc343 : ((kg : Nat) : Int) < ((d.sectors.length : Nat) : Int)
     ·skip
      refine wp_cond_true (c_true F341 rfl (decide_eq_true hc343)) ?_
      refine wp_skip ?_
      refine hK342 _ _ ?_
      clear hK342
      refine wp_seq_k (fun K344 hK344 => ?_)
      refine wp_block ?_
      refine wp_seq_k (fun K345 hK345 => ?_)
      refine wp_region_lit ?_
      have d359 := ((RDk.len hdc).1.ext hx322)
      obtain ⟨x346, hi347, hm348⟩ := nth_of_lt d.sectors kg (by omega)
      obtain ⟨b349, o350, A351, c352, hA353, hl354, hc355, hr356, le357, le358⟩ := RBss.get d359 hi347
      have z360 : x346.length = 128 := hL x346 (List.mem_of_getElem? hi347)
      have z361 := mod8 (x346.getD 10 0); have z362 := and1_fact (x346.getD 10 0); have z363 := and2_fact (x346.getD 10 0); have z364 := UInt8.toNat_lt (x346.getD 10 0)
      refine qv 0 (.pointer (some ⟨b349, o350 + kg, none⟩)) F341 rfl (rn_index1 Try.underlying22 inf35 ((F341.get rfl).trans (by rw [hA353])) (F341.get rfl) (by omega : (0 : Int) ≤ (kg : Nat)) (by omega : ((kg : Nat) : Int) < ((d.sectors.length : Nat) : Int))) fun _ F366 => ?_; clear F341
      refine qv 1 (.slice A351 x346.length c352) F366 rfl (rn_load (isAgg_no Try.underlying35 rfl) (F366.get rfl) (Ext.keep (Ext.refl w320) hc355)) fun _ F368 => ?_; clear F366
      refine qv 2 (.slice A351 x346.length c352) F368 rfl (rn_assign (F368.get rfl)) fun _ F370 => ?_; clear F368
      refine wpList_nil ?_
      refine hK345 _ _ ?_
      clear hK345
      have hx372 : ∃ W, w320.drew = W ∧ Ext w320 W := ⟨_, rfl, (Ext.refl _).drew⟩
      obtain ⟨w371, e373, hx372⟩ := hx372
      have z374 := hx372.size
      refine any_start (fun W => Ext w371 W) (fun i => false) 11 #[false, false, false, false, false, false, false, false, false, false, false] rfl rfl rfl ?_
      rw [e373]; clear e373
      refine qp 0 (.int .u64 (g : Nat)) F370 rfl rfl (fun W => (rn_move (F370.get rfl))) fun _ F376 => ?_; clear F370
      refine qp 1 (.slice A351 x346.length c352) F376 rfl rfl (fun W => (rn_move (F376.get rfl))) fun _ F378 => ?_; clear F376
      refine qp 2 (.slice A351 4 c352) F378 rfl rfl (fun W => (rn_sliceHi Try.underlying35 inf5 (F378.get rfl) rfl (by omega : (0 : Int) ≤ 4) (by omega : (4 : Int) ≤ ((c352 : Nat) : Int)))) fun _ F380 => ?_; clear F378
      refine qp 5 (.slice A351 x346.length c352) F380 rfl rfl (fun W => (rn_move (F380.get rfl))) fun _ F382 => ?_; clear F380
      have d386 := ((RBs.fl hr356).ext hx372)
      obtain ⟨b383, o384, hA385, -⟩ := Fl.at d386 (by omega)
      refine qp 6 (.slice (some ⟨b383, o384 + 124 * 1, none⟩) (x346.length - 124) (c352 - 124)) F382 rfl rfl (fun W => (rn_sliceLo (l := 124) Try.underlying35 inf5 ((F382.get rfl).trans (by rw [hA385])) rfl (by omega : 124 ≤ x346.length) (by omega : 124 < c352))) fun _ F388 => ?_; clear F382
      refine any_one (i := 3) (by decide +kernel) rfl ?_
      have hf389 := (Fl.take_eq (j := 4) d386 (by omega) (byteVals_take1 _ _))
      have z390 := num_lt4 (l := x346.take 4) (by have := Fl.blen hf389; omega)
      refine o_call F388 rfl rfl rfl rfl (rn_call (args1 (F388.get rfl)) rfl (by kernel_rfl)) (get_at (v := (.slice A351 4 c352)) (m := 4) (x346.take 4) _ hf389 (by omega)) ?_
      rintro _ w391 ⟨rfl, hx392⟩
      refine ⟨_, rfl, ?_⟩; intro a393 F394; clear F388; have z395 := hx392.size
      refine ⟨fun _ _ => ((Ext.refl w371).trans hx392), ?_⟩
      refine qp 4 (.int .u64 ((num (x346.take 4)) + 1 : Nat)) F394 rfl rfl (fun W => (rn_addU (a := num (x346.take 4)) (b := 1) (F394.get rfl) rfl (by omega))) fun _ F397 => ?_; clear F394
      refine any_one (i := 7) (by decide +kernel) rfl ?_
      have d398 := (((RBs.fl hr356).ext hx372).ext hx392)
      have hf399 := (Fl.drop_eq (j := 124) d398 hA385 (by omega) (byteVals_drop1 _ _))
      have z400 := num_lt4 (l := x346.drop 124) (by have := Fl.blen hf399; omega)
      refine o_call F397 rfl rfl rfl rfl (rn_call (args1 (F397.get rfl)) rfl (by kernel_rfl)) (get_at (v := (.slice (some ⟨b383, o384 + 124 * 1, none⟩) (x346.length - 124) (c352 - 124))) (m := x346.length - 124) (x346.drop 124) _ hf399 (by omega)) ?_
      rintro _ w401 ⟨rfl, hx402⟩
      refine ⟨_, rfl, ?_⟩; intro a403 F404; clear F397; have z405 := hx402.size
      refine ⟨fun _ _ => (((Ext.refl w371).trans hx392).trans hx402), ?_⟩
      refine qp 8 (.int .u64 ((num (x346.drop 124)) + 1 : Nat)) F404 rfl rfl (fun W => (rn_addU (a := num (x346.drop 124)) (b := 1) (F404.get rfl) rfl (by omega))) fun _ F407 => ?_; clear F404
      refine qp 9 (.int .u64 (max (max g ((num (x346.take 4)) + 1)) ((num (x346.drop 124)) + 1) : Nat)) F407 rfl rfl (fun W => (rn_max3U Try.underlying68 (F407.get rfl) (F407.get rfl) (F407.get rfl))) fun _ F409 => ?_; clear F407
      refine qp 10 (.int .u64 (max (max g ((num (x346.take 4)) + 1)) ((num (x346.drop 124)) + 1) : Nat)) F409 rfl rfl (fun W => (rn_assign (F409.get rfl))) fun _ F411 => ?_; clear F409
      refine any_nil (by decide +kernel) ?_
      refine hK344 _ _ ?_
      clear hK344
      have F412 := ((((((((((((((((((((F411.nil.c F411 12 rfl).c F411 60 rfl).c F411 59 rfl).c F411 58 rfl).c F411 57 rfl).c F411 10 rfl).c F411 52 rfl).c F411 9 rfl).c F411 43 rfl).c F411 29 rfl).c F411 8 rfl).c F411 22 rfl).c F411 7 rfl).c F411 6 rfl).c F411 5 rfl).c F411 4 rfl).c F411 3 rfl).c F411 2 rfl).c F411 1 rfl).c F411 0 rfl)
      clear F411
      refine wp_region_lit ?_
      refine qv 0 (.int .i64 (kg + 1 : Nat)) F412 rfl (rn_addN (a := kg) (b := 1) (F412.get rfl) rfl (by omega)) fun _ F414 => ?_; clear F412
      refine qv 1 (.int .i64 (kg + 1 : Nat)) F414 rfl (rn_move (F414.get rfl)) fun _ F416 => ?_; clear F414
      refine wpList_nil ?_
      have d417 := (((hf330.ext hx372).ext hx392).ext hx402)
      have b418 := (((b325.ext hx372).ext hx392).ext hx402)
      have b419 := (((b326.ext hx372).ext hx392).ext hx402)
      have b420 := (((b327.ext hx372).ext hx392).ext hx402)
      have b421 := (((b328.ext hx372).ext hx392).ext hx402)
      have b422 := (((b329.ext hx372).ext hx392).ext hx402)
      refine ⟨⟨(kg + 1), max (max g ((num (x346.take 4)) + 1)) ((num (x346.drop 124)) + 1), ((((((((((((((((((F416.nil.cons (q_get F416 (t := 59) rfl (by first | with_reducible rfl | (rw [hop]; done) | (congr 1; omega) | (congr 1; simp only [List.length_append, List.length_cons, List.length_nil]; omega) | rfl))).cons (q_get F416 (t := 58) rfl rfl)).cons (q_get F416 (t := 57) rfl rfl)).cons (q_get F416 (t := 10) rfl (by first | with_reducible rfl | (rw [hop]; done) | (congr 1; omega) | (congr 1; simp only [List.length_append, List.length_cons, List.length_nil]; omega) | rfl))).cons (q_get F416 (t := 52) rfl rfl)).cons (q_get F416 (t := 9) rfl rfl)).cons (q_get F416 (t := 43) rfl rfl)).cons (q_get F416 (t := 29) rfl rfl)).cons (q_get F416 (t := 8) rfl rfl)).cons (q_get F416 (t := 22) rfl rfl)).cons (q_get F416 (t := 7) rfl rfl)).cons (q_get F416 (t := 6) rfl rfl)).cons (q_get F416 (t := 5) rfl rfl)).cons (q_get F416 (t := 4) rfl rfl)).cons (q_get F416 (t := 3) rfl rfl)).cons (q_get F416 (t := 2) rfl rfl)).cons (q_get F416 (t := 1) rfl rfl)).cons (q_get F416 (t := 0) rfl rfl)), (by omega), (by rw [maxG_take hi347]; show max (max g (gen x346 + 1)) (gen2 x346 + 1) = _; omega), (((((Ext.refl w).trans hx322).trans hx372).trans hx392).trans hx402), b418, b419, b420, b421, b422, d417, (by omega)⟩, ?_⟩
      rw [F416.get (t := 59) rfl, hL332.get (t := 59) rfl]; simp [intOf] <;> omega
     ·skip
      refine wp_cond_false (c_false F341 rfl (decide_eq_false hc343)) ?_
      refine wp_exit ?_
      refine exit_then ?_
      refine exit_then ?_
      refine exit_here ?_
      refine hK304 _ _ ?_
      clear hK304
      refine wp_seq_k (fun K423 hK423 => ?_)
      refine wp_seq_k (fun K424 hK424 => ?_)
      have hgg := hp324
      rw [show kg = d.sectors.length by omega, List.take_length] at hgg
      have hx426 : ∃ W, w320.drew = W ∧ Ext w320 W := ⟨_, rfl, (Ext.refl _).drew⟩
      obtain ⟨w425, e427, hx426⟩ := hx426
      have z428 := hx426.size
      refine any_start (fun W => Ext w425 W ∧ Blk W g258 29 [(.int .i64 (openM d)), (.slice A241 ((openR d).length) c242), (.int .i64 ((openR d).length : Nat))] ∧ Blk W g2 29 [(.int .i64 m), (.slice A R.length c), (.int .i64 s)]) (fun i => false) 14 #[false, false, false, false, false, false, false, false, false, false, false, false, false, false] rfl rfl rfl ?_
      rw [e427]; clear e427
      refine qp 0 (.pointer (some ⟨g258, 1, none⟩)) F341 rfl rfl (fun W => (rn_field Try.underlying29 rfl (by kernel_rfl) (F341.get rfl) rfl)) fun _ F430 => ?_; clear F341
      have b432 := (b329.ext hx426)
      have b433 := (b325.ext hx426)
      have hS431 : Ext w425 w425 ∧ Blk w425 g258 29 [(.int .i64 (openM d)), (.slice A241 ((openR d).length) c242), (.int .i64 ((openR d).length : Nat))] ∧ Blk w425 g2 29 [(.int .i64 m), (.slice A R.length c), (.int .i64 s)] := ⟨(Ext.refl w425), b432, b433⟩
      refine qs 1 (.slice A241 ((openR d).length) c242) F430 rfl rfl hS431 (fun W hW => (rn_load (isAgg_no Try.underlying22 rfl) (F430.get rfl) (hW.2.1.rule.1 1))) fun _ F435 => ?_; clear F430
      refine qp 2 (.pointer (some ⟨g2, 1, none⟩)) F435 rfl rfl (fun W => (rn_field Try.underlying29 rfl (by kernel_rfl) (F435.get rfl) rfl)) fun _ F437 => ?_; clear F435
      refine qs 3 (.slice A R.length c) F437 rfl rfl hS431 (fun W hW => (rn_load (isAgg_no Try.underlying22 rfl) (F437.get rfl) (hW.2.2.rule.1 1))) fun _ F439 => ?_; clear F437
      refine qp 4 (.pointer (some ⟨g2, 2, none⟩)) F439 rfl rfl (fun W => (rn_field Try.underlying29 rfl (by kernel_rfl) (F439.get rfl) rfl)) fun _ F441 => ?_; clear F439
      refine qs 5 (.int .i64 s) F441 rfl rfl hS431 (fun W hW => (rn_load (isAgg_no Try.underlying3 rfl) (F441.get rfl) (hW.2.2.rule.1 2))) fun _ F443 => ?_; clear F441
      refine qp 6 (.slice A ((s : Int).toNat) c) F443 rfl rfl (fun W => (rn_sliceHi Try.underlying22 inf35 (F443.get rfl) (F443.get rfl) (by omega : (0 : Int) ≤ s) (by omega : (s : Int) ≤ ((c : Nat) : Int)))) fun _ F445 => ?_; clear F443
      refine any_one (i := 7) (by decide +kernel) rfl ?_
      have d446 := (hf330.ext hx426)
      have d447 := ((hnc.ext hx322).ext hx426)
      refine o_call F445 rfl rfl rfl rfl (rn_call (args3 (F445.get rfl) (F445.get rfl) rfl) rfl (by kernel_rfl)) (eqfunc_at (v := (.slice A241 ((openR d).length) c242)) (u := (.slice A ((s : Int).toNat) c)) (openR d) (R.take ((s : Int).toNat)) _ d446 (RSl.take d447 (by omega : (s : Int).toNat ≤ R.length) (by omega : (s : Int).toNat ≤ c) (by omega))) ?_
      rintro _ w448 ⟨rfl, hx449⟩
      refine ⟨_, rfl, ?_⟩; intro a450 F451; clear F445; have z452 := hx449.size
      have b453 := (b432.ext hx449)
      have b454 := (b433.ext hx449)
      refine ⟨fun _ _ => ⟨((Ext.refl w425).trans hx449), b453, b454⟩, ?_⟩
      refine qp 8 (.bool (!(decide ((openR d) = (R.take ((s : Int).toNat)))))) F451 rfl rfl (fun W => (rn_not' (F451.get rfl) rfl)) fun _ F456 => ?_; clear F451
      refine qp 9 (.bool (!(decide ((openR d) = (R.take ((s : Int).toNat)))))) F456 rfl rfl (fun W => (rn_move (F456.get rfl))) fun _ F458 => ?_; clear F456
      by_cases hc459 : (openR d) = (R.take ((s : Int).toNat))
      ·skip
       have heq := hc459
       refine qp 10 (.int .u64 (g : Nat)) F458 rfl (wanted_guard rfl rfl rfl F458 rfl (not_t (decide_eq_true hc459)) rfl) (fun W => (rn_move (F458.get rfl))) fun _ F461 => ?_; clear F458
       refine qp 11 (.int .u64 (g / 2 ^ 32 : Nat)) F461 rfl (wanted_guard rfl rfl rfl F461 rfl (not_t (decide_eq_true hc459)) rfl) (fun W => (rn_shrU (a := g) (n := 32) (F461.get rfl) rfl (by omega))) fun _ F463 => ?_; clear F461
       refine qp 12 (.bool (decide (((g / 2 ^ 32 : Nat) : Int) ≠ (0 : Int)))) F463 rfl (wanted_guard rfl rfl rfl F463 rfl (not_t (decide_eq_true hc459)) rfl) (fun W => (rn_neq (F463.get rfl) rfl)) fun _ F465 => ?_; clear F463
       refine qp 13 (.bool (decide (((g / 2 ^ 32 : Nat) : Int) ≠ (0 : Int)))) F465 rfl rfl (fun W => (rn_pickF (c_false F465 rfl (not_t (decide_eq_true hc459))) (F465.get rfl))) fun _ F467 => ?_; clear F465
       refine any_nil (by decide +kernel) ?_
       refine hK424 _ _ ?_
       clear hK424
       have F468 := ((((((((((((((((((((F467.nil.c F467 87 rfl).c F467 60 rfl).c F467 59 rfl).c F467 58 rfl).c F467 57 rfl).c F467 10 rfl).c F467 52 rfl).c F467 9 rfl).c F467 43 rfl).c F467 29 rfl).c F467 8 rfl).c F467 22 rfl).c F467 7 rfl).c F467 6 rfl).c F467 5 rfl).c F467 4 rfl).c F467 3 rfl).c F467 2 rfl).c F467 1 rfl).c F467 0 rfl)
       clear F467
       by_cases hc469 : ((g / 2 ^ 32 : Nat) : Int) ≠ (0 : Int)
       ·skip
        refine wp_cond_true (c_true F468 rfl (decide_eq_true hc469)) ?_
        refine wp_seq_k (fun K470 hK470 => ?_)
        refine wp_region_lit ?_
        refine qv 0 (.agg #[(.int .i64 0), (.slice none 0 0), (.int .i64 0)]) F468 rfl (rn_build (parts0 ) (by kernel_rfl)) fun _ F472 => ?_; clear F468
        refine qv 1 (.agg #[(.slice none 0 0), (.slice none 0 0), (.int .i64 0), (.bool false)]) F472 rfl (rn_build (parts0 ) (by kernel_rfl)) fun _ F474 => ?_; clear F472
        have b478 := ((b327.ext hx426).ext hx449)
        refine wpl_op (i := 2) rfl (o_store (cells := [(.int .i64 0), (.slice none 0 0), (.int .i64 0)]) F474 rfl rfl rfl rfl (F474.get rfl) (F474.get rfl) b478 inf29 rfl (by simp [Value.oneCell']) ?_)
        intro w475 b476 hg477; have z479 := hg477.size
        have b483 := (((b328.ext hx426).ext hx449).grownN hg477 (by omega))
        refine wpl_op (i := 3) rfl (o_store (cells := [(.slice none 0 0), (.slice none 0 0), (.int .i64 0), (.bool false)]) F474 rfl rfl rfl rfl (F474.get rfl) (F474.get rfl) b483 inf25 rfl (by simp [Value.oneCell']) ?_)
        intro w480 b481 hg482; have z484 := hg482.size
        refine qv 4 (.int .i64 390) F474 rfl (rn_assign rfl) fun _ F486 => ?_; clear F474
        refine wpList_nil ?_
        refine hK470 _ _ ?_
        clear hK470
        refine wp_ret ?_
        refine ret_then ?_
        have b487 := (b476.grownN hg482 (by omega))
        refine retCC1 F486 rfl rfl rfl rfl b487 Try.underlying29 rfl inf29 b481 Try.underlying25 rfl inf25 ?_
        exact lsync_err (sync_5 hlc hmn hop (.inr (by omega))) ((((((Ext.refl w).trans hx322).trans hx426).trans hx449).grownN hg477 (by omega)).grownN hg482 (by omega))
       ·skip
        have hgo : Goes ⟨m, R, s⟩ d := ⟨hlc, hmn, hop, hopr.symm.trans heq, by omega⟩
        obtain ⟨hro1, hro2⟩ := hgo.room hu
        refine wp_cond_false (c_false F468 rfl (decide_eq_false hc469)) ?_
        refine wp_skip ?_
        refine hK423 _ _ ?_
        clear hK423
        refine wp_seq_k (fun K488 hK488 => ?_)
        refine wp_seq_k (fun K489 hK489 => ?_)
        refine wp_region_lit ?_
        refine qv 0 (.pointer (some ⟨g2, 2, none⟩)) F468 rfl (rn_field Try.underlying29 rfl (by kernel_rfl) (F468.get rfl) rfl) fun _ F491 => ?_; clear F468
        refine qv 1 (.int .i64 s) F491 rfl (rn_load (isAgg_no Try.underlying3 rfl) (F491.get rfl) (b454.rule.1 2)) fun _ F493 => ?_; clear F491
        refine qv 2 (.pointer (some ⟨g2, 1, none⟩)) F493 rfl (rn_field Try.underlying29 rfl (by kernel_rfl) (F493.get rfl) rfl) fun _ F495 => ?_; clear F493
        refine qv 3 (.slice A R.length c) F495 rfl (rn_load (isAgg_no Try.underlying22 rfl) (F495.get rfl) (b454.rule.1 1)) fun _ F497 => ?_; clear F495
        refine qv 4 (.int .i64 (R.length : Nat)) F497 rfl (rn_len_slice Try.underlying22 (F497.get rfl)) fun _ F499 => ?_; clear F497
        refine qv 5 (.bool (decide ((s : Int) = ((R.length : Nat) : Int)))) F499 rfl (rn_eql (F499.get rfl) (F499.get rfl)) fun _ F501 => ?_; clear F499
        refine wpList_nil ?_
        refine hK489 _ _ ?_
        clear hK489
        have F502 := (((((((((((((((((((((F501.nil.c F501 95 rfl).c F501 87 rfl).c F501 60 rfl).c F501 59 rfl).c F501 58 rfl).c F501 57 rfl).c F501 10 rfl).c F501 52 rfl).c F501 9 rfl).c F501 43 rfl).c F501 29 rfl).c F501 8 rfl).c F501 22 rfl).c F501 7 rfl).c F501 6 rfl).c F501 5 rfl).c F501 4 rfl).c F501 3 rfl).c F501 2 rfl).c F501 1 rfl).c F501 0 rfl)
        clear F501
        by_cases hc503 : (s : Int) = ((R.length : Nat) : Int)
        ·skip
         have hsl : s = (R.length : Nat) := by omega
         refine wp_cond_true (c_true F502 rfl (decide_eq_true hc503)) ?_
         refine wp_seq_k (fun K504 hK504 => ?_)
         have hx506 : ∃ W, w448.drew = W ∧ Ext w448 W := ⟨_, rfl, (Ext.refl _).drew⟩
         obtain ⟨w505, e507, hx506⟩ := hx506
         have z508 := hx506.size
         refine anyg_start (fun W => Ext w505 W ∧ Blk W g2 29 [(.int .i64 m), (.slice A R.length c), (.int .i64 s)] ∧ Blk W g10 25 [(.slice X d.sectors.length x), (.slice Y d.pending.length y), (.int .i64 d.left), (.bool d.stopped)] ∧ Blk W g18 29 [(.int .i64 0), (.slice none 0 0), (.int .i64 0)] ∧ Blk W g26 25 [(.slice none 0 0), (.slice none 0 0), (.int .i64 0), (.bool false)]) (fun i => i == 2 || i == 3) (fun W => Blk W g2 29 [(.int .i64 m), (.slice A R.length c), (.int .i64 s)] ∧ Blk W g10 25 [(.slice X d.sectors.length x), (.slice Y d.pending.length y), (.int .i64 d.left), (.bool d.stopped)]) 5 #[false, false, false, false, false] rfl rfl rfl ?_
         rw [e507]; clear e507
         have b510 := (b454.ext hx506)
         have b511 := (((b326.ext hx426).ext hx449).ext hx506)
         have b512 := (((b327.ext hx426).ext hx449).ext hx506)
         have b513 := (((b328.ext hx426).ext hx449).ext hx506)
         have hS509 : Ext w505 w505 ∧ Blk w505 g2 29 [(.int .i64 m), (.slice A R.length c), (.int .i64 s)] ∧ Blk w505 g10 25 [(.slice X d.sectors.length x), (.slice Y d.pending.length y), (.int .i64 d.left), (.bool d.stopped)] ∧ Blk w505 g18 29 [(.int .i64 0), (.slice none 0 0), (.int .i64 0)] ∧ Blk w505 g26 25 [(.slice none 0 0), (.slice none 0 0), (.int .i64 0), (.bool false)] := ⟨(Ext.refl w505), b510, b511, b512, b513⟩
         refine gs 0 (.agg #[(.int .i64 m), (.slice A R.length c), (.int .i64 s)]) F502 rfl rfl hS509 (fun W hW => (rn_loadBlk (F502.get rfl) hW.2.1 Try.underlying29 rfl inf29)) fun _ F515 => ?_; clear F502
         have hS516 : Blk w505 g2 29 [(.int .i64 m), (.slice A R.length c), (.int .i64 s)] ∧ Blk w505 g10 25 [(.slice X d.sectors.length x), (.slice Y d.pending.length y), (.int .i64 d.left), (.bool d.stopped)] := ⟨b510, b511⟩
         refine anyg_val2 (i := 1) (v := (.agg #[(.slice X d.sectors.length x), (.slice Y d.pending.length y), (.int .i64 d.left), (.bool d.stopped)])) F515 (by decide +kernel) (by decide +kernel) rfl rfl rfl rfl (fun _ _ _ _ h => h) rfl hS516 (fun W hW => (rn_loadBlk (F515.get rfl) hW.2 Try.underlying25 rfl inf25)) ?_
         intro a517 F518; clear F515
         refine anyg_one (i := 2) (by decide +kernel) rfl ?_
         refine o_store (cells := [(.int .i64 m), (.slice A R.length c), (.int .i64 s)]) F518 rfl rfl rfl rfl (F518.get rfl) (F518.get rfl) b512 inf29 rfl (by simp [Value.oneCell']) ?_
         intro w519 b520 hg521; have z522 := hg521.size
         have b523 := (b510.grownN hg521 (by omega))
         have b524 := (b511.grownN hg521 (by omega))
         refine ⟨⟨fun h => absurd h (by decide), fun _ => ⟨b523, b524⟩⟩, ?_⟩
         refine anyg_one (i := 3) (by decide +kernel) rfl ?_
         have b528 := (b513.grownN hg521 (by omega))
         refine o_store (cells := [(.slice X d.sectors.length x), (.slice Y d.pending.length y), (.int .i64 d.left), (.bool d.stopped)]) F518 rfl rfl rfl rfl (F518.get rfl) (F518.get rfl) b528 inf25 rfl (by simp [Value.oneCell']) ?_
         intro w525 b526 hg527; have z529 := hg527.size
         have b530 := (b523.grownN hg527 (by omega))
         have b531 := (b524.grownN hg527 (by omega))
         refine ⟨⟨fun h => absurd h (by decide), fun _ => ⟨b530, b531⟩⟩, ?_⟩
         refine gp 4 (.int .i64 0) F518 rfl rfl (fun W => (rn_assign rfl)) fun _ F533 => ?_; clear F518
         refine anyg_nil (by decide +kernel) ?_
         refine hK504 _ _ ?_
         clear hK504
         refine wp_ret ?_
         refine ret_then ?_
         have b534 := (b520.grownN hg527 (by omega))
         refine retCC1 F533 rfl rfl rfl rfl b534 Try.underlying29 rfl inf29 b526 Try.underlying25 rfl inf25 ?_
         have d535 := (hnc.pres (((((((Pres.refl w).ext hx322).ext hx426).ext hx449).ext hx506).grownN hg521 (fun h => by simp only [Clip] at h; omega)).grownN hg527 (fun h => by simp only [Clip] at h; omega)))
         have d536 := (hdc.pres (((((((Pres.refl w).ext hx322).ext hx426).ext hx449).ext hx506).grownN hg521 (fun h => by simp only [Clip] at h; omega)).grownN hg527 (fun h => by simp only [Clip] at h; omega)))
         exact lsync_fin (sync_6 hgo hsl) d535 (fun b hb => .inl hb.1) d536 (fun b hb => .inl hb.1) (((((((Ext.refl w).trans hx322).trans hx426).trans hx449).trans hx506).grownN hg521 (by omega)).grownN hg527 (by omega))
        ·skip
         have hsl : s ≠ (R.length : Nat) := by omega
         refine wp_cond_false (c_false F502 rfl (decide_eq_false hc503)) ?_
         refine wp_skip ?_
         refine hK488 _ _ ?_
         clear hK488
         refine wp_seq_k (fun K537 hK537 => ?_)
         refine wp_region_lit ?_
         refine qv 0 (.pointer (some ⟨g2, 1, none⟩)) F502 rfl (rn_field Try.underlying29 rfl (by kernel_rfl) (F502.get rfl) rfl) fun _ F539 => ?_; clear F502
         refine qv 1 (.slice A R.length c) F539 rfl (rn_load (isAgg_no Try.underlying22 rfl) (F539.get rfl) (b454.rule.1 1)) fun _ F541 => ?_; clear F539
         refine qv 2 (.pointer (some ⟨g2, 2, none⟩)) F541 rfl (rn_field Try.underlying29 rfl (by kernel_rfl) (F541.get rfl) rfl) fun _ F543 => ?_; clear F541
         refine qv 3 (.int .i64 s) F543 rfl (rn_load (isAgg_no Try.underlying3 rfl) (F543.get rfl) (b454.rule.1 2)) fun _ F545 => ?_; clear F543
         refine qv 4 (.slice A ((s : Int).toNat) c) F545 rfl (rn_sliceHi Try.underlying22 inf35 (F545.get rfl) (F545.get rfl) (by omega : (0 : Int) ≤ s) (by omega : (s : Int) ≤ ((c : Nat) : Int))) fun _ F547 => ?_; clear F545
         have d548 := (((hnc.ext hx322).ext hx426).ext hx449)
         refine wpl_op (i := 5) rfl (o_call F547 rfl rfl rfl rfl (rn_call (args1 (F547.get rfl)) rfl (by kernel_rfl)) (used_at (v := (.slice A ((s : Int).toNat) c)) (R.take ((s : Int).toNat)) _ (RSl.take d548 (by omega : (s : Int).toNat ≤ R.length) (by omega : (s : Int).toNat ≤ c) (by omega)) (fun x hx => hb x (List.mem_of_mem_take hx))) ?_)
         rintro _ w549 ⟨rfl, hx550⟩
         refine ⟨_, rfl, ?_⟩; intro a551 F552; clear F547; have z553 := hx550.size
         refine qv 6 (.int .i64 (usedW (R.take ((s : Int).toNat)))) F552 rfl (rn_assign (F552.get rfl)) fun _ F555 => ?_; clear F552
         refine wpList_nil ?_
         refine hK537 _ _ ?_
         clear hK537
         have F556 := ((((((((((((((((((((((F555.nil.c F555 13 rfl).c F555 95 rfl).c F555 87 rfl).c F555 60 rfl).c F555 59 rfl).c F555 58 rfl).c F555 57 rfl).c F555 10 rfl).c F555 52 rfl).c F555 9 rfl).c F555 43 rfl).c F555 29 rfl).c F555 8 rfl).c F555 22 rfl).c F555 7 rfl).c F555 6 rfl).c F555 5 rfl).c F555 4 rfl).c F555 3 rfl).c F555 2 rfl).c F555 1 rfl).c F555 0 rfl)
         clear F555
         refine wp_seq_k (fun K557 hK557 => ?_)
         refine wp_seq_k (fun K558 hK558 => ?_)
         obtain ⟨a0, ha0⟩ : ∃ a0, usedL (R.take (s : Int).toNat) = a0 := ⟨_, rfl⟩
         have hus : usedW (R.take ((s : Int).toNat)) = ((a0 : Nat) : Int) := by rw [← ha0]; exact usedW_small (by have := usedL_take_le R (s : Int).toNat; omega)
         rw [hus] at F556
         obtain ⟨ns, hns⟩ : ∃ ns, R.drop (s : Int).toNat = ns := ⟨_, rfl⟩
         have hnl := congrArg List.length hns; rw [List.length_drop] at hnl
         have hncut : RBss (Clip S w) w (.slice (cutA A c ((s : Int).toNat) 1) (R.length - ((s : Int).toNat)) (c - ((s : Int).toNat))) ns := hns ▸ RBss.cut hnc (by omega)
         have hro3 : a0 + usedL ns ≤ d.sectors.length := by rw [← ha0, ← hns]; exact hro1
         refine wp_region_lit ?_
         refine qv 0 (.pointer (some ⟨g2, 1, none⟩)) F556 rfl (rn_field Try.underlying29 rfl (by kernel_rfl) (F556.get rfl) rfl) fun _ F560 => ?_; clear F556
         have b561 := (b454.ext hx550)
         refine qv 1 (.slice A R.length c) F560 rfl (rn_load (isAgg_no Try.underlying22 rfl) (F560.get rfl) (b561.rule.1 1)) fun _ F563 => ?_; clear F560
         refine qv 2 (.pointer (some ⟨g2, 2, none⟩)) F563 rfl (rn_field Try.underlying29 rfl (by kernel_rfl) (F563.get rfl) rfl) fun _ F565 => ?_; clear F563
         refine qv 3 (.int .i64 s) F565 rfl (rn_load (isAgg_no Try.underlying3 rfl) (F565.get rfl) (b561.rule.1 2)) fun _ F567 => ?_; clear F565
         refine qv 4 (.slice (cutA A c ((s : Int).toNat) 1) (R.length - ((s : Int).toNat)) (c - ((s : Int).toNat))) F567 rfl (rn_cutLo (l := (s : Int).toNat) Try.underlying22 inf35 (F567.get rfl) ((F567.get rfl).trans (by rw [Int.toNat_of_nonneg (by omega)])) (by omega)) fun _ F569 => ?_; clear F567
         refine qv 5 (.int .i64 (R.length - ((s : Int).toNat) : Nat)) F569 rfl (rn_len_slice Try.underlying22 (F569.get rfl)) fun _ F571 => ?_; clear F569
         refine qv 6 (.int .i64 0) F571 rfl (rn_move rfl) fun _ F573 => ?_; clear F571
         refine wpList_nil ?_
         refine hK558 _ _ ?_
         clear hK558
         have F574 := (((((((((((((((((((((((((F573.nil.c F573 110 rfl).c F573 109 rfl).c F573 108 rfl).c F573 13 rfl).c F573 95 rfl).c F573 87 rfl).c F573 60 rfl).c F573 59 rfl).c F573 58 rfl).c F573 57 rfl).c F573 10 rfl).c F573 52 rfl).c F573 9 rfl).c F573 43 rfl).c F573 29 rfl).c F573 8 rfl).c F573 22 rfl).c F573 7 rfl).c F573 6 rfl).c F573 5 rfl).c F573 4 rfl).c F573 3 rfl).c F573 2 rfl).c F573 1 rfl).c F573 0 rfl)
         clear F573
         refine wp_block ?_
         have d575 := ((((hdc.ext hx322).ext hx426).ext hx449).ext hx550)
         have d576 := (((hf330.ext hx426).ext hx449).ext hx550)
         have b577 := (((b326.ext hx426).ext hx449).ext hx550)
         have b578 := (((b327.ext hx426).ext hx449).ext hx550)
         have b579 := (((b328.ext hx426).ext hx449).ext hx550)
         have b580 := (b453.ext hx550)
         refine wp_loop (fun a' W => ∃ (k : Nat) (ss : List (List UInt8)) (xd : Dk) (xA : Option Addr) (xc : Nat) (xB : Option Addr) (xe : Nat), Sl 167 [(0, (.agg #[(.int .i64 m), (.slice A R.length c), (.int .i64 s)])), (1, (.agg #[(.slice X d.sectors.length x), (.slice Y d.pending.length y), (.int .i64 d.left), (.bool d.stopped)])), (2, (.pointer (some ⟨g2, 0, none⟩))), (3, (.pointer (some ⟨g10, 0, none⟩))), (4, (.pointer (some ⟨g18, 0, none⟩))), (5, (.pointer (some ⟨g26, 0, none⟩))), (6, (.int .i64 0)), (7, (.int .i64 ((Lg.mk m R s).check))), (22, (.bool (decide (((Lg.mk m R s).check : Int) ≠ (0 : Int))))), (8, (.int .i64 d.check)), (29, (.bool (decide ((d.check : Int) ≠ (0 : Int))))), (43, (.bool false)), (9, (.pointer (some ⟨g258, 0, none⟩))), (52, (.bool (decide (((openE d) : Int) ≠ (0 : Int))))), (10, (.int .u64 (g : Nat))), (57, (.slice X d.sectors.length x)), (58, (.int .i64 (d.sectors.length : Nat))), (59, (.int .i64 (kg : Nat))), (60, (.bool (decide (((kg : Nat) : Int) < ((d.sectors.length : Nat) : Int))))), (87, (.bool (decide (((g / 2 ^ 32 : Nat) : Int) ≠ (0 : Int))))), (95, (.bool (decide ((s : Int) = ((R.length : Nat) : Int))))), (13, (.int .i64 (a0 + ss.length : Nat))), (108, (.slice (cutA A c ((s : Int).toNat) 1) (R.length - ((s : Int).toNat)) (c - ((s : Int).toNat)))), (109, (.int .i64 (R.length - ((s : Int).toNat) : Nat))), (110, (.int .i64 (k : Nat)))] a' ∧ k ≤ ns.length ∧ ss = allSecs g a0 (ns.take k) ∧ xd = d.wr a0 ss ∧ Ext w W ∧ Blk W g2 29 [(.int .i64 m), (.slice A R.length c), (.int .i64 s)] ∧ Blk W g10 25 [(.slice xA xd.sectors.length xc), (.slice xB xd.pending.length xe), (.int .i64 xd.left), (.bool xd.stopped)] ∧ Blk W g18 29 [(.int .i64 0), (.slice none 0 0), (.int .i64 0)] ∧ Blk W g26 25 [(.slice none 0 0), (.slice none 0 0), (.int .i64 0), (.bool false)] ∧ Blk W g258 29 [(.int .i64 (openM d)), (.slice A241 ((openR d).length) c242), (.int .i64 ((openR d).length : Nat))] ∧ RBss (Clip (fun b => w82.heap.size ≤ b) w244) W (.slice A241 ((openR d).length) c242) (openR d) ∧ RDk (Clip (fun b => Fr S w b ∧ b ≠ g2 ∧ b ≠ g10 ∧ b ≠ g18 ∧ b ≠ g26 ∧ b ≠ g258) W) W (.agg #[(.slice xA xd.sectors.length xc), (.slice xB xd.pending.length xe), (.int .i64 xd.left), (.bool xd.stopped)]) xd ∧ w549.heap.size ≤ W.heap.size) (fun a' _ => (R.length - (s : Int).toNat) - (intOf (a'.eval (.tmp 110))).toNat) ⟨0, [], d, X, x, Y, y, (((((((((((((((((((((((((F574.nil.cons (q_get F574 (t := 110) rfl (by first | with_reducible rfl | (rw [hop]; done) | (congr 1; omega) | (congr 1; simp only [List.length_append, List.length_cons, List.length_nil]; omega) | rfl))).cons (q_get F574 (t := 109) rfl rfl)).cons (q_get F574 (t := 108) rfl rfl)).cons (q_get F574 (t := 13) rfl (by first | with_reducible rfl | (rw [hop]; done) | (congr 1; omega) | (congr 1; simp only [List.length_append, List.length_cons, List.length_nil]; omega) | rfl))).cons (q_get F574 (t := 95) rfl rfl)).cons (q_get F574 (t := 87) rfl rfl)).cons (q_get F574 (t := 60) rfl rfl)).cons (q_get F574 (t := 59) rfl rfl)).cons (q_get F574 (t := 58) rfl rfl)).cons (q_get F574 (t := 57) rfl rfl)).cons (q_get F574 (t := 10) rfl rfl)).cons (q_get F574 (t := 52) rfl rfl)).cons (q_get F574 (t := 9) rfl rfl)).cons (q_get F574 (t := 43) rfl rfl)).cons (q_get F574 (t := 29) rfl rfl)).cons (q_get F574 (t := 8) rfl rfl)).cons (q_get F574 (t := 22) rfl rfl)).cons (q_get F574 (t := 7) rfl rfl)).cons (q_get F574 (t := 6) rfl (by first | with_reducible rfl | (rw [hop]; done) | (congr 1; omega) | (congr 1; simp only [List.length_append, List.length_cons, List.length_nil]; omega) | rfl))).cons (q_get F574 (t := 5) rfl rfl)).cons (q_get F574 (t := 4) rfl rfl)).cons (q_get F574 (t := 3) rfl rfl)).cons (q_get F574 (t := 2) rfl rfl)).cons (q_get F574 (t := 1) rfl rfl)).cons (q_get F574 (t := 0) rfl rfl)), (by omega), rfl, (wr_nil hgo a0), (((((Ext.refl w).trans hx322).trans hx426).trans hx449).trans hx550), b561, b577, b578, b579, b580, d576, (RDk.sub (S := (Clip S w)) d575 (fun b hb => by have h2 := hb.2; exact ⟨⟨.inl hb.1, by omega, by omega, by omega, by omega, by omega⟩, by omega⟩)), (Nat.le_refl _)⟩ ?_
         clear F574
         rintro a581 w582 ⟨k, ss, xd, xA, xc, xB, xe, F583, hp585, hp586, hp587, hx584, b588, b589, b590, b591, b592, hf593, hf594, hf595⟩
         have hL596 := F583
         have z597 := hx584.size
         have z598 := b588.lt
         have z599 := b589.lt
         have z600 := b590.lt
         have z601 := b591.lt
         have z602 := b592.lt
         have hs128 : ∀ z ∈ ss, z.length = 128 := by rw [hp586]; exact allSecs_128 _ _ _
         refine wp_seq_k (fun K603 hK603 => ?_)
         refine wp_region_lit ?_
         refine qv 0 (.bool (decide (((k : Nat) : Int) < ((R.length - ((s : Int).toNat) : Nat) : Int)))) F583 rfl (rn_lss (F583.get rfl) (F583.get rfl)) fun _ F605 => ?_; clear F583
         refine wpList_nil ?_
         refine hK603 _ _ ?_
         clear hK603
         refine wp_seq_k (fun K606 hK606 => ?_)
         by_cases hc607 : ((k : Nat) : Int) < ((R.length - ((s : Int).toNat) : Nat) : Int)
         ·skip
          refine wp_cond_true (c_true F605 rfl (decide_eq_true hc607)) ?_
          refine wp_skip ?_
          refine hK606 _ _ ?_
          clear hK606
          refine wp_seq_k (fun K608 hK608 => ?_)
          refine wp_block ?_
          refine wp_seq_k (fun K609 hK609 => ?_)
          refine wp_region_lit ?_
          have d623 := (hncut.ext hx584)
          obtain ⟨x610, hi611, hm612⟩ := nth_of_lt ns k (by omega)
          obtain ⟨b613, o614, A615, c616, hA617, hl618, hc619, hr620, le621, le622⟩ := RBss.get d623 hi611
          have z624 := (fun z hz => hb z (List.mem_of_mem_drop (hns ▸ hz))) x610 (List.mem_of_getElem? hi611)
          refine qv 0 (.pointer (some ⟨b613, o614 + k, none⟩)) F605 rfl (rn_index1 Try.underlying22 inf35 ((F605.get rfl).trans (by rw [hA617])) (F605.get rfl) (by omega : (0 : Int) ≤ (k : Nat)) (by omega : ((k : Nat) : Int) < ((R.length - ((s : Int).toNat) : Nat) : Int))) fun _ F626 => ?_; clear F605
          refine qv 1 (.slice A615 x610.length c616) F626 rfl (rn_load (isAgg_no Try.underlying35 rfl) (F626.get rfl) (Ext.keep (Ext.refl w582) hc619)) fun _ F628 => ?_; clear F626
          refine qv 2 (.slice A615 x610.length c616) F628 rfl (rn_assign (F628.get rfl)) fun _ F630 => ?_; clear F628
          refine wpList_nil ?_
          refine hK609 _ _ ?_
          clear hK609
          refine wp_seq_k (fun K631 hK631 => ?_)
          refine wp_region_lit ?_
          refine qv 0 (.int .u8 1) F630 rfl (rn_assign rfl) fun _ F633 => ?_; clear F630
          refine wpList_nil ?_
          refine hK631 _ _ ?_
          clear hK631
          refine wp_seq_k (fun K634 hK634 => ?_)
          refine wp_region_lit ?_
          refine qv 0 (.slice A615 x610.length c616) F633 rfl (rn_move (F633.get rfl)) fun _ F636 => ?_; clear F633
          refine wpl_op (i := 1) rfl (o_call F636 rfl rfl rfl rfl (rn_call (args1 (F636.get rfl)) rfl (by kernel_rfl)) (sectors_any A615 x610.length c616 _ (by omega)) ?_)
          rintro _ w637 ⟨rfl, hx638⟩
          refine ⟨_, rfl, ?_⟩; intro a639 F640; clear F636; have z641 := hx638.size
          refine qv 2 (.int .i64 (secs x610.length : Nat)) F640 rfl (rn_assign (F640.get rfl)) fun _ F643 => ?_; clear F640
          refine wpList_nil ?_
          refine hK634 _ _ ?_
          clear hK634
          have F644 := (((((((((((((((((((((((((((((F643.nil.c F643 17 rfl).c F643 16 rfl).c F643 15 rfl).c F643 111 rfl).c F643 110 rfl).c F643 109 rfl).c F643 108 rfl).c F643 13 rfl).c F643 95 rfl).c F643 87 rfl).c F643 60 rfl).c F643 59 rfl).c F643 58 rfl).c F643 57 rfl).c F643 10 rfl).c F643 52 rfl).c F643 9 rfl).c F643 43 rfl).c F643 29 rfl).c F643 8 rfl).c F643 22 rfl).c F643 7 rfl).c F643 6 rfl).c F643 5 rfl).c F643 4 rfl).c F643 3 rfl).c F643 2 rfl).c F643 1 rfl).c F643 0 rfl)
          clear F643
          refine wp_block ?_
          have hsr := ss_room hp586 hi611
          have hsx := secs_pos x610.length
          have d645 := ((RBs.fl hr620).ext hx638)
          have d646 := (hf594.ext hx638)
          have d647 := (hf593.ext hx638)
          have b648 := (b588.ext hx638)
          have b649 := (b589.ext hx638)
          have b650 := (b590.ext hx638)
          have b651 := (b591.ext hx638)
          have b652 := (b592.ext hx638)
          refine wp_loop (fun a' W => ∃ (j : Nat) (ts : List (List UInt8)) (q : UInt8) (bA : Option Addr) (bc : Nat) (yd : Dk) (yA : Option Addr) (yc : Nat) (yB : Option Addr) (ye : Nat), Sl 167 [(0, (.agg #[(.int .i64 m), (.slice A R.length c), (.int .i64 s)])), (1, (.agg #[(.slice X d.sectors.length x), (.slice Y d.pending.length y), (.int .i64 d.left), (.bool d.stopped)])), (2, (.pointer (some ⟨g2, 0, none⟩))), (3, (.pointer (some ⟨g10, 0, none⟩))), (4, (.pointer (some ⟨g18, 0, none⟩))), (5, (.pointer (some ⟨g26, 0, none⟩))), (6, (.int .i64 0)), (7, (.int .i64 ((Lg.mk m R s).check))), (22, (.bool (decide (((Lg.mk m R s).check : Int) ≠ (0 : Int))))), (8, (.int .i64 d.check)), (29, (.bool (decide ((d.check : Int) ≠ (0 : Int))))), (43, (.bool false)), (9, (.pointer (some ⟨g258, 0, none⟩))), (52, (.bool (decide (((openE d) : Int) ≠ (0 : Int))))), (10, (.int .u64 (g : Nat))), (57, (.slice X d.sectors.length x)), (58, (.int .i64 (d.sectors.length : Nat))), (59, (.int .i64 (kg : Nat))), (60, (.bool (decide (((kg : Nat) : Int) < ((d.sectors.length : Nat) : Int))))), (87, (.bool (decide (((g / 2 ^ 32 : Nat) : Int) ≠ (0 : Int))))), (95, (.bool (decide ((s : Int) = ((R.length : Nat) : Int))))), (13, (.int .i64 (a0 + ts.length : Nat))), (108, (.slice (cutA A c ((s : Int).toNat) 1) (R.length - ((s : Int).toNat)) (c - ((s : Int).toNat)))), (109, (.int .i64 (R.length - ((s : Int).toNat) : Nat))), (110, (.int .i64 (k : Nat))), (111, (.bool (decide (((k : Nat) : Int) < ((R.length - ((s : Int).toNat) : Nat) : Int))))), (15, (.slice bA (x610.length - 112 * j) bc)), (16, (.int .u8 (q.toNat : Nat))), (17, (.int .i64 (((secs x610.length : Nat) : Int) - (j : Nat))))] a' ∧ j ≤ secs x610.length ∧ ts = ss ++ (pieces g (secs x610.length) (a0 + ss.length) true x610).take j ∧ yd = d.wr a0 ts ∧ q = kindOf (j == 0) false ∧ Ext w W ∧ Blk W g2 29 [(.int .i64 m), (.slice A R.length c), (.int .i64 s)] ∧ Blk W g10 25 [(.slice yA yd.sectors.length yc), (.slice yB yd.pending.length ye), (.int .i64 yd.left), (.bool yd.stopped)] ∧ Blk W g18 29 [(.int .i64 0), (.slice none 0 0), (.int .i64 0)] ∧ Blk W g26 25 [(.slice none 0 0), (.slice none 0 0), (.int .i64 0), (.bool false)] ∧ Blk W g258 29 [(.int .i64 (openM d)), (.slice A241 ((openR d).length) c242), (.int .i64 ((openR d).length : Nat))] ∧ RBss (Clip (fun b => w82.heap.size ≤ b) w244) W (.slice A241 ((openR d).length) c242) (openR d) ∧ Fl (Clip S w) W 1 (.slice A615 x610.length c616) x610.length (byteVals x610) ∧ Fl (Clip S w) W 1 (.slice bA (x610.length - 112 * j) bc) (x610.length - 112 * j) (byteVals (x610.drop (112 * j))) ∧ RDk (Clip (fun b => Fr S w b ∧ b ≠ g2 ∧ b ≠ g10 ∧ b ≠ g18 ∧ b ≠ g26 ∧ b ≠ g258) W) W (.agg #[(.slice yA yd.sectors.length yc), (.slice yB yd.pending.length ye), (.int .i64 yd.left), (.bool yd.stopped)]) yd ∧ w637.heap.size ≤ W.heap.size) (fun a' _ => (intOf (a'.eval (.tmp 17))).toNat) ⟨0, ss, 1, A615, c616, xd, xA, xc, xB, xe, (((((((((((((((((((((((((((((F644.nil.cons (q_get F644 (t := 17) rfl (by first | with_reducible rfl | (rw [hop]; done) | (congr 1; omega) | (congr 1; simp only [List.length_append, List.length_cons, List.length_nil]; omega) | rfl))).cons (q_get F644 (t := 16) rfl (by first | with_reducible rfl | (rw [hop]; done) | (congr 1; omega) | (congr 1; simp only [List.length_append, List.length_cons, List.length_nil]; omega) | rfl))).cons (q_get F644 (t := 15) rfl (by first | with_reducible rfl | (rw [hop]; done) | (congr 1; omega) | (congr 1; simp only [List.length_append, List.length_cons, List.length_nil]; omega) | rfl))).cons (q_get F644 (t := 111) rfl rfl)).cons (q_get F644 (t := 110) rfl rfl)).cons (q_get F644 (t := 109) rfl rfl)).cons (q_get F644 (t := 108) rfl rfl)).cons (q_get F644 (t := 13) rfl (by first | with_reducible rfl | (rw [hop]; done) | (congr 1; omega) | (congr 1; simp only [List.length_append, List.length_cons, List.length_nil]; omega) | rfl))).cons (q_get F644 (t := 95) rfl rfl)).cons (q_get F644 (t := 87) rfl rfl)).cons (q_get F644 (t := 60) rfl rfl)).cons (q_get F644 (t := 59) rfl rfl)).cons (q_get F644 (t := 58) rfl rfl)).cons (q_get F644 (t := 57) rfl rfl)).cons (q_get F644 (t := 10) rfl rfl)).cons (q_get F644 (t := 52) rfl rfl)).cons (q_get F644 (t := 9) rfl rfl)).cons (q_get F644 (t := 43) rfl rfl)).cons (q_get F644 (t := 29) rfl rfl)).cons (q_get F644 (t := 8) rfl rfl)).cons (q_get F644 (t := 22) rfl rfl)).cons (q_get F644 (t := 7) rfl rfl)).cons (q_get F644 (t := 6) rfl (by first | with_reducible rfl | (rw [hop]; done) | (congr 1; omega) | (congr 1; simp only [List.length_append, List.length_cons, List.length_nil]; omega) | rfl))).cons (q_get F644 (t := 5) rfl rfl)).cons (q_get F644 (t := 4) rfl rfl)).cons (q_get F644 (t := 3) rfl rfl)).cons (q_get F644 (t := 2) rfl rfl)).cons (q_get F644 (t := 1) rfl rfl)).cons (q_get F644 (t := 0) rfl rfl)), (by omega), (by simp), hp587, rfl, (((Ext.refl w).trans hx584).trans hx638), b648, b649, b650, b651, b652, d647, d645, (Fl.start d645), (RDk.sub (S := (Clip (fun b => Fr S w b ∧ b ≠ g2 ∧ b ≠ g10 ∧ b ≠ g18 ∧ b ≠ g26 ∧ b ≠ g258) w582)) d646 (fun b hb => ⟨hb.1, by have := hb.2; omega⟩)), (Nat.le_refl _)⟩ ?_
          clear F644
          rintro a653 w654 ⟨j, ts, q, bA, bc, yd, yA, yc, yB, ye, F655, hp657, hp658, hp659, hp660, hx656, b661, b662, b663, b664, b665, hf666, hf667, hf668, hf669, hf670⟩
          have hL671 := F655
          have z672 := hx656.size
          have z673 := b661.lt
          have z674 := b662.lt
          have z675 := b663.lt
          have z676 := b664.lt
          have z677 := b665.lt
          have htl := ts_len hp658 (by omega)
          have ht128 := ts_128 hp658 hs128
          have z678 := (Fl.cel hf668).2.1
          refine wp_seq_k (fun K679 hK679 => ?_)
          refine wp_seq_k (fun K680 hK680 => ?_)
          refine wp_region_lit ?_
          refine qv 0 (.int .i64 (((secs x610.length : Nat) : Int) - (j : Nat))) F655 rfl (rn_move (F655.get rfl)) fun _ F682 => ?_; clear F655
          refine qv 1 (.bool (decide ((0 : Int) < (((secs x610.length : Nat) : Int) - (j : Nat) : Int)))) F682 rfl (rn_gtr (F682.get rfl) rfl) fun _ F684 => ?_; clear F682
          refine wpList_nil ?_
          refine hK680 _ _ ?_
          clear hK680
          by_cases hc685 : (0 : Int) < (((secs x610.length : Nat) : Int) - (j : Nat) : Int)
          ·skip
           refine wp_cond_true (c_true F684 rfl (decide_eq_true hc685)) ?_
           refine wp_skip ?_
           refine hK679 _ _ ?_
           clear hK679
           refine wp_seq_k (fun K686 hK686 => ?_)
           refine wp_block ?_
           refine wp_seq_k (fun K687 hK687 => ?_)
           refine wp_seq_k (fun K688 hK688 => ?_)
           refine wp_region_lit ?_
           refine qv 0 (.int .i64 (((secs x610.length : Nat) : Int) - (j : Nat))) F684 rfl (rn_move (F684.get rfl)) fun _ F690 => ?_; clear F684
           refine qv 1 (.bool (decide ((((secs x610.length : Nat) : Int) - (j : Nat) : Int) = (1 : Int)))) F690 rfl (rn_eql (F690.get rfl) rfl) fun _ F692 => ?_; clear F690
           refine wpList_nil ?_
           refine hK688 _ _ ?_
           clear hK688
           by_cases hc693 : (((secs x610.length : Nat) : Int) - (j : Nat) : Int) = (1 : Int)
           ·skip
            refine wp_cond_true (c_true F692 rfl (decide_eq_true hc693)) ?_
            refine wp_region_lit ?_
            refine qv 0 (.int .u8 (q.toNat : Nat)) F692 rfl (rn_move (F692.get rfl)) fun _ F695 => ?_; clear F692
            refine qv 1 (.int .u8 ((q ||| (2 : UInt8)).toNat : Nat)) F695 rfl (rn_or8 (a := q) (b := (2 : UInt8)) (F695.get rfl) rfl) fun _ F697 => ?_; clear F695
            refine qv 2 (.int .u8 ((q ||| (2 : UInt8)).toNat : Nat)) F697 rfl (rn_assign (F697.get rfl)) fun _ F699 => ?_; clear F697
            refine wpList_nil ?_
            refine hK687 _ _ ?_
            clear hK687
            have F700 := (((((((((((((((((((((((((((((((F699.nil.c F699 121 rfl).c F699 117 rfl).c F699 17 rfl).c F699 16 rfl).c F699 15 rfl).c F699 111 rfl).c F699 110 rfl).c F699 109 rfl).c F699 108 rfl).c F699 13 rfl).c F699 95 rfl).c F699 87 rfl).c F699 60 rfl).c F699 59 rfl).c F699 58 rfl).c F699 57 rfl).c F699 10 rfl).c F699 52 rfl).c F699 9 rfl).c F699 43 rfl).c F699 29 rfl).c F699 8 rfl).c F699 22 rfl).c F699 7 rfl).c F699 6 rfl).c F699 5 rfl).c F699 4 rfl).c F699 3 rfl).c F699 2 rfl).c F699 1 rfl).c F699 0 rfl)
            clear F699
            refine wp_seq_k (fun K701 hK701 => ?_)
            refine wp_region_lit ?_
            refine qv 0 (.slice bA (x610.length - 112 * j) bc) F700 rfl (rn_move (F700.get rfl)) fun _ F703 => ?_; clear F700
            refine qv 1 (.int .i64 (x610.length - 112 * j : Nat)) F703 rfl (rn_len_slice Try.underlying35 (F703.get rfl)) fun _ F705 => ?_; clear F703
            refine qv 2 (.int .i64 (min (x610.length - 112 * j) 112 : Nat)) F705 rfl (rn_min2N (a := x610.length - 112 * j) (b := 112) Try.underlying3 (F705.get rfl) rfl) fun _ F707 => ?_; clear F705
            refine qv 3 (.int .i64 (min (x610.length - 112 * j) 112 : Nat)) F707 rfl (rn_assign (F707.get rfl)) fun _ F709 => ?_; clear F707
            refine wpList_nil ?_
            refine hK701 _ _ ?_
            clear hK701
            refine wp_seq_k (fun K710 hK710 => ?_)
            refine wp_seq_k (fun K711 hK711 => ?_)
            have hx713 : ∃ W, w654.drew = W ∧ Ext w654 W := ⟨_, rfl, (Ext.refl _).drew⟩
            obtain ⟨w712, e714, hx713⟩ := hx713
            have z715 := hx713.size
            refine any_start (fun W => Ext w712 W ∧ Blk W g10 25 [(.slice yA yd.sectors.length yc), (.slice yB yd.pending.length ye), (.int .i64 yd.left), (.bool yd.stopped)]) (fun i => i == 13) 15 #[false, false, false, false, false, false, false, false, false, false, false, false, false, false, false] rfl rfl rfl ?_
            rw [e714]; clear e714
            have b717 := (b662.ext hx713)
            have hS716 : Ext w712 w712 ∧ Blk w712 g10 25 [(.slice yA yd.sectors.length yc), (.slice yB yd.pending.length ye), (.int .i64 yd.left), (.bool yd.stopped)] := ⟨(Ext.refl w712), b717⟩
            refine qs 0 (.agg #[(.slice yA yd.sectors.length yc), (.slice yB yd.pending.length ye), (.int .i64 yd.left), (.bool yd.stopped)]) F709 rfl rfl hS716 (fun W hW => (rn_loadBlk (F709.get rfl) hW.2 Try.underlying25 rfl inf25)) fun _ F719 => ?_; clear F709
            refine qp 1 (.int .i64 (a0 + ts.length : Nat)) F719 rfl rfl (fun W => (rn_move (F719.get rfl))) fun _ F721 => ?_; clear F719
            refine qp 2 (.int .u64 (g : Nat)) F721 rfl rfl (fun W => (rn_move (F721.get rfl))) fun _ F723 => ?_; clear F721
            refine qp 3 (.int .i64 (a0 + ts.length : Nat)) F723 rfl rfl (fun W => (rn_move (F723.get rfl))) fun _ F725 => ?_; clear F723
            refine qp 4 (.int .u8 ((q ||| (2 : UInt8)).toNat : Nat)) F725 rfl rfl (fun W => (rn_move (F725.get rfl))) fun _ F727 => ?_; clear F725
            refine qp 5 (.slice bA (x610.length - 112 * j) bc) F727 rfl rfl (fun W => (rn_move (F727.get rfl))) fun _ F729 => ?_; clear F727
            refine qp 6 (.int .i64 (min (x610.length - 112 * j) 112 : Nat)) F729 rfl rfl (fun W => (rn_move (F729.get rfl))) fun _ F731 => ?_; clear F729
            refine qp 7 (.slice bA (min (x610.length - 112 * j) 112) bc) F731 rfl rfl (fun W => (rn_sliceHi Try.underlying35 inf5 (F731.get rfl) (F731.get rfl) (by omega : (0 : Int) ≤ (min (x610.length - 112 * j) 112 : Nat)) (by omega : ((min (x610.length - 112 * j) 112 : Nat) : Int) ≤ ((bc : Nat) : Int)))) fun _ F733 => ?_; clear F731
            refine any_one (i := 8) (by decide +kernel) rfl ?_
            have d734 := (hf668.ext hx713)
            have hf738 := (Fl.take_eq (j := (min (x610.length - 112 * j) 112)) d734 (by omega) (byteVals_take1 _ _))
            refine o_call F733 rfl rfl rfl rfl (rn_call (args4 (F733.get rfl) (F733.get rfl) (F733.get rfl) (F733.get rfl)) rfl (by kernel_rfl)) (encode_at (v := (.slice bA (min (x610.length - 112 * j) 112) bc)) (m := (min (x610.length - 112 * j) 112)) g (a0 + ts.length) (q ||| (2 : UInt8)) ((x610.drop (112 * j)).take (min (x610.length - 112 * j) 112)) _ (Fl.take_eq (j := (min (x610.length - 112 * j) 112)) d734 (by omega) (byteVals_take1 _ _)) (by omega) (by omega) (by omega)) ?_
            rintro _ w739 ⟨g735, z736, rfl, b737, hx740⟩
            refine ⟨_, rfl, ?_⟩; intro a741 F742; clear F733; have z743 := hx740.size
            have z744 := b737.lt
            have b745 := (b717.ext hx740)
            refine ⟨fun _ _ => ⟨((Ext.refl w712).trans hx740), b745⟩, ?_⟩
            refine any_one (i := 9) (by decide +kernel) rfl ?_
            have d746 := ((hf669.ext hx713).ext hx740)
            have hf747 := (Fl.blk (S := fun b => b = g735) (k := 1) (n := 128) (c := 128) b737 (by rw [byteVals_len (encL_len (by have := Fl.blen hf738; omega)), Nat.mul_one]) (byteVals_one _) (by omega) rfl)
            have he748 : yd.write ((a0 + ts.length : Nat) : Int) (encL g (a0 + ts.length) (q ||| (2 : UInt8)) ((x610.drop (112 * j)).take (min (x610.length - 112 * j) 112))) = (d.wr a0 (ts ++ [encL g (a0 + ts.length) (q ||| (2 : UInt8)) ((x610.drop (112 * j)).take (min (x610.length - 112 * j) 112))]), 0) := by rw [hp659]; exact wr_write hgo (by show a0 + ts.length < d.sectors.length; omega) ht128 (encL_len (by rw [List.length_take]; omega))
            refine o_call F742 rfl rfl rfl rfl (rn_call (args3 (F742.get rfl) (F742.get rfl) (F742.get rfl)) rfl (by kernel_rfl)) (calls_conv (write_any (S := (fun b => (Clip (fun b => Fr S w b ∧ b ≠ g2 ∧ b ≠ g10 ∧ b ≠ g18 ∧ b ≠ g26 ∧ b ≠ g258) w654) b ∨ (fun b => b = g735) b)) _ _ yd _ (encL g (a0 + ts.length) (q ||| (2 : UInt8)) ((x610.drop (112 * j)).take (min (x610.length - 112 * j) 112))) _ (d746.sub (fun _ => Or.inl)) ((Fl.rbs hf747).sub (fun _ => Or.inr))) (congrArg Prod.fst he748) (congrArg Prod.snd he748)) ?_
            rintro _ w755 ⟨v754, rfl, hd753, hx756⟩
            obtain ⟨A749, c750, B751, e752, rfl, -, -⟩ := hd753.form
            have hd753 := hd753.clip
            refine ⟨_, rfl, ?_⟩; intro a757 F758; clear F742; have z759 := hx756.size
            have b760 := (b745.ext hx756)
            refine ⟨fun _ _ => ⟨(((Ext.refl w712).trans hx740).trans hx756), b760⟩, ?_⟩
            refine qp 10 (.tuple #[(.agg #[(.slice A749 ((d.wr a0 (ts ++ [encL g (a0 + ts.length) (q ||| (2 : UInt8)) ((x610.drop (112 * j)).take (min (x610.length - 112 * j) 112))])).sectors.length) c750), (.slice B751 ((d.wr a0 (ts ++ [encL g (a0 + ts.length) (q ||| (2 : UInt8)) ((x610.drop (112 * j)).take (min (x610.length - 112 * j) 112))])).pending.length) e752), (.int .i64 ((d.wr a0 (ts ++ [encL g (a0 + ts.length) (q ||| (2 : UInt8)) ((x610.drop (112 * j)).take (min (x610.length - 112 * j) 112))])).left)), (.bool ((d.wr a0 (ts ++ [encL g (a0 + ts.length) (q ||| (2 : UInt8)) ((x610.drop (112 * j)).take (min (x610.length - 112 * j) 112))])).stopped))]), (.int .i64 0)]) F758 rfl rfl (fun W => (rn_move (F758.get rfl))) fun _ F762 => ?_; clear F758
            refine qp 11 (.agg #[(.slice A749 ((d.wr a0 (ts ++ [encL g (a0 + ts.length) (q ||| (2 : UInt8)) ((x610.drop (112 * j)).take (min (x610.length - 112 * j) 112))])).sectors.length) c750), (.slice B751 ((d.wr a0 (ts ++ [encL g (a0 + ts.length) (q ||| (2 : UInt8)) ((x610.drop (112 * j)).take (min (x610.length - 112 * j) 112))])).pending.length) e752), (.int .i64 ((d.wr a0 (ts ++ [encL g (a0 + ts.length) (q ||| (2 : UInt8)) ((x610.drop (112 * j)).take (min (x610.length - 112 * j) 112))])).left)), (.bool ((d.wr a0 (ts ++ [encL g (a0 + ts.length) (q ||| (2 : UInt8)) ((x610.drop (112 * j)).take (min (x610.length - 112 * j) 112))])).stopped))]) F762 rfl rfl (fun W => (rn_extract (F762.get rfl) rfl)) fun _ F764 => ?_; clear F762
            refine qp 12 (.int .i64 0) F764 rfl rfl (fun W => (rn_extract (F764.get rfl) rfl)) fun _ F766 => ?_; clear F764
            refine any_one (i := 13) (by decide +kernel) rfl ?_
            refine o_store (cells := [(.slice A749 ((d.wr a0 (ts ++ [encL g (a0 + ts.length) (q ||| (2 : UInt8)) ((x610.drop (112 * j)).take (min (x610.length - 112 * j) 112))])).sectors.length) c750), (.slice B751 ((d.wr a0 (ts ++ [encL g (a0 + ts.length) (q ||| (2 : UInt8)) ((x610.drop (112 * j)).take (min (x610.length - 112 * j) 112))])).pending.length) e752), (.int .i64 ((d.wr a0 (ts ++ [encL g (a0 + ts.length) (q ||| (2 : UInt8)) ((x610.drop (112 * j)).take (min (x610.length - 112 * j) 112))])).left)), (.bool ((d.wr a0 (ts ++ [encL g (a0 + ts.length) (q ||| (2 : UInt8)) ((x610.drop (112 * j)).take (min (x610.length - 112 * j) 112))])).stopped))]) F766 rfl rfl rfl rfl (F766.get rfl) (F766.get rfl) b760 inf25 rfl (by simp [Value.oneCell']) ?_
            intro w767 b768 hg769; have z770 := hg769.size
            refine ⟨fun h => absurd h (by decide), ?_⟩
            refine qp 14 (.int .i64 0) F766 rfl rfl (fun W => (rn_assign (F766.get rfl))) fun _ F772 => ?_; clear F766
            refine any_nil (by decide +kernel) ?_
            refine hK711 _ _ ?_
            clear hK711
            have F773 := ((((((((((((((((((((((((((((((((F772.nil.c F772 18 rfl).c F772 121 rfl).c F772 117 rfl).c F772 17 rfl).c F772 16 rfl).c F772 15 rfl).c F772 111 rfl).c F772 110 rfl).c F772 109 rfl).c F772 108 rfl).c F772 13 rfl).c F772 95 rfl).c F772 87 rfl).c F772 60 rfl).c F772 59 rfl).c F772 58 rfl).c F772 57 rfl).c F772 10 rfl).c F772 52 rfl).c F772 9 rfl).c F772 43 rfl).c F772 29 rfl).c F772 8 rfl).c F772 22 rfl).c F772 7 rfl).c F772 6 rfl).c F772 5 rfl).c F772 4 rfl).c F772 3 rfl).c F772 2 rfl).c F772 1 rfl).c F772 0 rfl)
            clear F772
            refine wp_seq_k (fun K774 hK774 => ?_)
            refine wp_region_lit ?_
            refine qv 0 (.int .i64 0) F773 rfl (rn_move (F773.get rfl)) fun _ F776 => ?_; clear F773
            refine qv 1 (.bool false) F776 rfl (rn_neq' (F776.get rfl) rfl (by decide)) fun _ F778 => ?_; clear F776
            refine wpList_nil ?_
            refine hK774 _ _ ?_
            clear hK774
            refine wp_cond_false (c_false F778 rfl rfl) ?_
            refine wp_skip ?_
            refine hK710 _ _ ?_
            clear hK710
            refine wp_seq_k (fun K779 hK779 => ?_)
            refine wp_region_lit ?_
            refine qv 0 (.slice bA (x610.length - 112 * j) bc) F778 rfl (rn_move (F778.get rfl)) fun _ F781 => ?_; clear F778
            refine qv 1 (.int .i64 (min (x610.length - 112 * j) 112 : Nat)) F781 rfl (rn_move (F781.get rfl)) fun _ F783 => ?_; clear F781
            refine qv 2 (.slice (cutA bA bc (min (x610.length - 112 * j) 112) 1) ((x610.length - 112 * j) - (min (x610.length - 112 * j) 112)) (bc - (min (x610.length - 112 * j) 112))) F783 rfl (rn_cutLo (l := min (x610.length - 112 * j) 112) Try.underlying35 inf5 (F783.get rfl) (F783.get rfl) (by omega)) fun _ F785 => ?_; clear F783
            refine qv 3 (.slice (cutA bA bc (min (x610.length - 112 * j) 112) 1) ((x610.length - 112 * j) - (min (x610.length - 112 * j) 112)) (bc - (min (x610.length - 112 * j) 112))) F785 rfl (rn_assign (F785.get rfl)) fun _ F787 => ?_; clear F785
            refine qv 4 (.int .u8 0) F787 rfl (rn_assign rfl) fun _ F789 => ?_; clear F787
            refine wpList_nil ?_
            refine hK779 _ _ ?_
            clear hK779
            have F790 := (((((((((((((((((((((((((((((((((F789.nil.c F789 141 rfl).c F789 18 rfl).c F789 121 rfl).c F789 117 rfl).c F789 17 rfl).c F789 16 rfl).c F789 15 rfl).c F789 111 rfl).c F789 110 rfl).c F789 109 rfl).c F789 108 rfl).c F789 13 rfl).c F789 95 rfl).c F789 87 rfl).c F789 60 rfl).c F789 59 rfl).c F789 58 rfl).c F789 57 rfl).c F789 10 rfl).c F789 52 rfl).c F789 9 rfl).c F789 43 rfl).c F789 29 rfl).c F789 8 rfl).c F789 22 rfl).c F789 7 rfl).c F789 6 rfl).c F789 5 rfl).c F789 4 rfl).c F789 3 rfl).c F789 2 rfl).c F789 1 rfl).c F789 0 rfl)
            clear F789
            refine wp_region_lit ?_
            refine qv 0 (.int .i64 (a0 + ts.length : Nat)) F790 rfl (rn_move (F790.get rfl)) fun _ F792 => ?_; clear F790
            refine qv 1 (.int .i64 ((a0 + ts.length) + 1 : Nat)) F792 rfl (rn_addN (a := a0 + ts.length) (b := 1) (F792.get rfl) rfl (by omega)) fun _ F794 => ?_; clear F792
            refine qv 2 (.int .i64 ((a0 + ts.length) + 1 : Nat)) F794 rfl (rn_assign (F794.get rfl)) fun _ F796 => ?_; clear F794
            refine wpList_nil ?_
            refine hK686 _ _ ?_
            clear hK686
            refine wp_region_lit ?_
            refine qv 0 (.int .i64 (((secs x610.length : Nat) : Int) - (j : Nat))) F796 rfl (rn_move (F796.get rfl)) fun _ F798 => ?_; clear F796
            refine qv 1 (.int .i64 ((((secs x610.length : Nat) : Int) - (j : Nat)) - 1)) F798 rfl (rn_sub (F798.get rfl) rfl (by omega) (by omega)) fun _ F800 => ?_; clear F798
            refine qv 2 (.int .i64 ((((secs x610.length : Nat) : Int) - (j : Nat)) - 1)) F800 rfl (rn_assign (F800.get rfl)) fun _ F802 => ?_; clear F800
            refine wpList_nil ?_
            have d803 := (hd753.pres ((Pres.refl w755).grownN hg769 (fun h => by first | (simp only [Clip, ne_eq, not_true_eq_false, and_false, false_and] at h; done) | (have h2 := h.2; omega) | (rcases h.1 with h | h; (focus (first | (simp only [Clip, ne_eq, not_true_eq_false, and_false, false_and] at h; done) | (rcases h with h | h; (focus (simp only [Clip, ne_eq, not_true_eq_false, and_false, false_and] at h)); ((try simp only [Clip] at h); omega)))); omega))))
            have d804 := (hf666.pres (((((Pres.refl w654).ext hx713).ext hx740).ext hx756).grownN hg769 (fun h => by simp only [Clip] at h; omega)))
            have d805 := (hf667.pres (((((Pres.refl w654).ext hx713).ext hx740).ext hx756).grownN hg769 (fun h => by simp only [Clip] at h; omega)))
            have d806 := (hf668.pres (((((Pres.refl w654).ext hx713).ext hx740).ext hx756).grownN hg769 (fun h => by simp only [Clip] at h; omega)))
            have b807 := ((((b661.ext hx713).ext hx740).ext hx756).grownN hg769 (by omega))
            have b808 := ((((b663.ext hx713).ext hx740).ext hx756).grownN hg769 (by omega))
            have b809 := ((((b664.ext hx713).ext hx740).ext hx756).grownN hg769 (by omega))
            have b810 := ((((b665.ext hx713).ext hx740).ext hx756).grownN hg769 (by omega))
            refine ⟨⟨(j + 1), ts ++ [encL g (a0 + ts.length) (q ||| (2 : UInt8)) ((x610.drop (112 * j)).take (min (x610.length - 112 * j) 112))], 0, (cutA bA bc (min (x610.length - 112 * j) 112) 1), bc - (min (x610.length - 112 * j) 112), (d.wr a0 (ts ++ [encL g (a0 + ts.length) (q ||| (2 : UInt8)) ((x610.drop (112 * j)).take (min (x610.length - 112 * j) 112))])), A749, c750, B751, e752, (((((((((((((((((((((((((((((F802.nil.cons (q_get F802 (t := 17) rfl (by first | with_reducible rfl | (rw [hop]; done) | (congr 1; omega) | (congr 1; simp only [List.length_append, List.length_cons, List.length_nil]; omega) | rfl))).cons (q_get F802 (t := 16) rfl (by first | with_reducible rfl | (rw [hop]; done) | (congr 1; omega) | (congr 1; simp only [List.length_append, List.length_cons, List.length_nil]; omega) | rfl))).cons (q_get F802 (t := 15) rfl (by first | with_reducible rfl | (rw [hop]; done) | (congr 1; omega) | (congr 1; simp only [List.length_append, List.length_cons, List.length_nil]; omega) | rfl))).cons (q_get F802 (t := 111) rfl rfl)).cons (q_get F802 (t := 110) rfl rfl)).cons (q_get F802 (t := 109) rfl rfl)).cons (q_get F802 (t := 108) rfl rfl)).cons (q_get F802 (t := 13) rfl (by first | with_reducible rfl | (rw [hop]; done) | (congr 1; omega) | (congr 1; simp only [List.length_append, List.length_cons, List.length_nil]; omega) | rfl))).cons (q_get F802 (t := 95) rfl rfl)).cons (q_get F802 (t := 87) rfl rfl)).cons (q_get F802 (t := 60) rfl rfl)).cons (q_get F802 (t := 59) rfl rfl)).cons (q_get F802 (t := 58) rfl rfl)).cons (q_get F802 (t := 57) rfl rfl)).cons (q_get F802 (t := 10) rfl rfl)).cons (q_get F802 (t := 52) rfl rfl)).cons (q_get F802 (t := 9) rfl rfl)).cons (q_get F802 (t := 43) rfl rfl)).cons (q_get F802 (t := 29) rfl rfl)).cons (q_get F802 (t := 8) rfl rfl)).cons (q_get F802 (t := 22) rfl rfl)).cons (q_get F802 (t := 7) rfl rfl)).cons (q_get F802 (t := 6) rfl (by first | with_reducible rfl | (rw [hop]; done) | (congr 1; omega) | (congr 1; simp only [List.length_append, List.length_cons, List.length_nil]; omega) | rfl))).cons (q_get F802 (t := 5) rfl rfl)).cons (q_get F802 (t := 4) rfl rfl)).cons (q_get F802 (t := 3) rfl rfl)).cons (q_get F802 (t := 2) rfl rfl)).cons (q_get F802 (t := 1) rfl rfl)).cons (q_get F802 (t := 0) rfl rfl)), (by omega), (ts_next hp658 (by omega) htl (kind_last hp660 (by omega))), rfl, (kind_next j), ((((((Ext.refl w).trans hx656).trans hx713).trans hx740).trans hx756).grownN hg769 (by omega)), b807, b768, b808, b809, b810, d804, d805, (Fl.piece d806), (RDk.sub (S := (Clip (Fr (fun b => (Clip (fun b => Fr S w b ∧ b ≠ g2 ∧ b ≠ g10 ∧ b ≠ g18 ∧ b ≠ g26 ∧ b ≠ g258) w654) b ∨ (fun b => b = g735) b) w739) w755)) d803 (fun b hb => by obtain ⟨hb, hlt⟩ := hb; rcases hb with (hb | hb) | hb; exact ⟨hb.1, by omega⟩; all_goals (try simp only [Clip] at hb); all_goals exact ⟨⟨.inr (by omega), by omega, by omega, by omega, by omega, by omega⟩, by omega⟩)), (by omega)⟩, ?_⟩
            rw [F802.get (t := 17) rfl, hL671.get (t := 17) rfl]; simp [intOf] <;> omega
           ·skip
            refine wp_cond_false (c_false F692 rfl (decide_eq_false hc693)) ?_
            refine wp_skip ?_
            refine hK687 _ _ ?_
            clear hK687
            refine wp_seq_k (fun K811 hK811 => ?_)
            refine wp_region_lit ?_
            refine qv 0 (.slice bA (x610.length - 112 * j) bc) F692 rfl (rn_move (F692.get rfl)) fun _ F813 => ?_; clear F692
            refine qv 1 (.int .i64 (x610.length - 112 * j : Nat)) F813 rfl (rn_len_slice Try.underlying35 (F813.get rfl)) fun _ F815 => ?_; clear F813
            refine qv 2 (.int .i64 (min (x610.length - 112 * j) 112 : Nat)) F815 rfl (rn_min2N (a := x610.length - 112 * j) (b := 112) Try.underlying3 (F815.get rfl) rfl) fun _ F817 => ?_; clear F815
            refine qv 3 (.int .i64 (min (x610.length - 112 * j) 112 : Nat)) F817 rfl (rn_assign (F817.get rfl)) fun _ F819 => ?_; clear F817
            refine wpList_nil ?_
            refine hK811 _ _ ?_
            clear hK811
            have F820 := ((((((((((((((((((((((((((((((((F819.nil.c F819 18 rfl).c F819 121 rfl).c F819 117 rfl).c F819 17 rfl).c F819 16 rfl).c F819 15 rfl).c F819 111 rfl).c F819 110 rfl).c F819 109 rfl).c F819 108 rfl).c F819 13 rfl).c F819 95 rfl).c F819 87 rfl).c F819 60 rfl).c F819 59 rfl).c F819 58 rfl).c F819 57 rfl).c F819 10 rfl).c F819 52 rfl).c F819 9 rfl).c F819 43 rfl).c F819 29 rfl).c F819 8 rfl).c F819 22 rfl).c F819 7 rfl).c F819 6 rfl).c F819 5 rfl).c F819 4 rfl).c F819 3 rfl).c F819 2 rfl).c F819 1 rfl).c F819 0 rfl)
            clear F819
            refine wp_seq_k (fun K821 hK821 => ?_)
            refine wp_seq_k (fun K822 hK822 => ?_)
            have hx824 : ∃ W, w654.drew = W ∧ Ext w654 W := ⟨_, rfl, (Ext.refl _).drew⟩
            obtain ⟨w823, e825, hx824⟩ := hx824
            have z826 := hx824.size
            refine any_start (fun W => Ext w823 W ∧ Blk W g10 25 [(.slice yA yd.sectors.length yc), (.slice yB yd.pending.length ye), (.int .i64 yd.left), (.bool yd.stopped)]) (fun i => i == 13) 15 #[false, false, false, false, false, false, false, false, false, false, false, false, false, false, false] rfl rfl rfl ?_
            rw [e825]; clear e825
            have b828 := (b662.ext hx824)
            have hS827 : Ext w823 w823 ∧ Blk w823 g10 25 [(.slice yA yd.sectors.length yc), (.slice yB yd.pending.length ye), (.int .i64 yd.left), (.bool yd.stopped)] := ⟨(Ext.refl w823), b828⟩
            refine qs 0 (.agg #[(.slice yA yd.sectors.length yc), (.slice yB yd.pending.length ye), (.int .i64 yd.left), (.bool yd.stopped)]) F820 rfl rfl hS827 (fun W hW => (rn_loadBlk (F820.get rfl) hW.2 Try.underlying25 rfl inf25)) fun _ F830 => ?_; clear F820
            refine qp 1 (.int .i64 (a0 + ts.length : Nat)) F830 rfl rfl (fun W => (rn_move (F830.get rfl))) fun _ F832 => ?_; clear F830
            refine qp 2 (.int .u64 (g : Nat)) F832 rfl rfl (fun W => (rn_move (F832.get rfl))) fun _ F834 => ?_; clear F832
            refine qp 3 (.int .i64 (a0 + ts.length : Nat)) F834 rfl rfl (fun W => (rn_move (F834.get rfl))) fun _ F836 => ?_; clear F834
            refine qp 4 (.int .u8 (q.toNat : Nat)) F836 rfl rfl (fun W => (rn_move (F836.get rfl))) fun _ F838 => ?_; clear F836
            refine qp 5 (.slice bA (x610.length - 112 * j) bc) F838 rfl rfl (fun W => (rn_move (F838.get rfl))) fun _ F840 => ?_; clear F838
            refine qp 6 (.int .i64 (min (x610.length - 112 * j) 112 : Nat)) F840 rfl rfl (fun W => (rn_move (F840.get rfl))) fun _ F842 => ?_; clear F840
            refine qp 7 (.slice bA (min (x610.length - 112 * j) 112) bc) F842 rfl rfl (fun W => (rn_sliceHi Try.underlying35 inf5 (F842.get rfl) (F842.get rfl) (by omega : (0 : Int) ≤ (min (x610.length - 112 * j) 112 : Nat)) (by omega : ((min (x610.length - 112 * j) 112 : Nat) : Int) ≤ ((bc : Nat) : Int)))) fun _ F844 => ?_; clear F842
            refine any_one (i := 8) (by decide +kernel) rfl ?_
            have d845 := (hf668.ext hx824)
            have hf849 := (Fl.take_eq (j := (min (x610.length - 112 * j) 112)) d845 (by omega) (byteVals_take1 _ _))
            refine o_call F844 rfl rfl rfl rfl (rn_call (args4 (F844.get rfl) (F844.get rfl) (F844.get rfl) (F844.get rfl)) rfl (by kernel_rfl)) (encode_at (v := (.slice bA (min (x610.length - 112 * j) 112) bc)) (m := (min (x610.length - 112 * j) 112)) g (a0 + ts.length) q ((x610.drop (112 * j)).take (min (x610.length - 112 * j) 112)) _ (Fl.take_eq (j := (min (x610.length - 112 * j) 112)) d845 (by omega) (byteVals_take1 _ _)) (by omega) (by omega) (by omega)) ?_
            rintro _ w850 ⟨g846, z847, rfl, b848, hx851⟩
            refine ⟨_, rfl, ?_⟩; intro a852 F853; clear F844; have z854 := hx851.size
            have z855 := b848.lt
            have b856 := (b828.ext hx851)
            refine ⟨fun _ _ => ⟨((Ext.refl w823).trans hx851), b856⟩, ?_⟩
            refine any_one (i := 9) (by decide +kernel) rfl ?_
            have d857 := ((hf669.ext hx824).ext hx851)
            have hf858 := (Fl.blk (S := fun b => b = g846) (k := 1) (n := 128) (c := 128) b848 (by rw [byteVals_len (encL_len (by have := Fl.blen hf849; omega)), Nat.mul_one]) (byteVals_one _) (by omega) rfl)
            have he859 : yd.write ((a0 + ts.length : Nat) : Int) (encL g (a0 + ts.length) q ((x610.drop (112 * j)).take (min (x610.length - 112 * j) 112))) = (d.wr a0 (ts ++ [encL g (a0 + ts.length) q ((x610.drop (112 * j)).take (min (x610.length - 112 * j) 112))]), 0) := by rw [hp659]; exact wr_write hgo (by show a0 + ts.length < d.sectors.length; omega) ht128 (encL_len (by rw [List.length_take]; omega))
            refine o_call F853 rfl rfl rfl rfl (rn_call (args3 (F853.get rfl) (F853.get rfl) (F853.get rfl)) rfl (by kernel_rfl)) (calls_conv (write_any (S := (fun b => (Clip (fun b => Fr S w b ∧ b ≠ g2 ∧ b ≠ g10 ∧ b ≠ g18 ∧ b ≠ g26 ∧ b ≠ g258) w654) b ∨ (fun b => b = g846) b)) _ _ yd _ (encL g (a0 + ts.length) q ((x610.drop (112 * j)).take (min (x610.length - 112 * j) 112))) _ (d857.sub (fun _ => Or.inl)) ((Fl.rbs hf858).sub (fun _ => Or.inr))) (congrArg Prod.fst he859) (congrArg Prod.snd he859)) ?_
            rintro _ w866 ⟨v865, rfl, hd864, hx867⟩
            obtain ⟨A860, c861, B862, e863, rfl, -, -⟩ := hd864.form
            have hd864 := hd864.clip
            refine ⟨_, rfl, ?_⟩; intro a868 F869; clear F853; have z870 := hx867.size
            have b871 := (b856.ext hx867)
            refine ⟨fun _ _ => ⟨(((Ext.refl w823).trans hx851).trans hx867), b871⟩, ?_⟩
            refine qp 10 (.tuple #[(.agg #[(.slice A860 ((d.wr a0 (ts ++ [encL g (a0 + ts.length) q ((x610.drop (112 * j)).take (min (x610.length - 112 * j) 112))])).sectors.length) c861), (.slice B862 ((d.wr a0 (ts ++ [encL g (a0 + ts.length) q ((x610.drop (112 * j)).take (min (x610.length - 112 * j) 112))])).pending.length) e863), (.int .i64 ((d.wr a0 (ts ++ [encL g (a0 + ts.length) q ((x610.drop (112 * j)).take (min (x610.length - 112 * j) 112))])).left)), (.bool ((d.wr a0 (ts ++ [encL g (a0 + ts.length) q ((x610.drop (112 * j)).take (min (x610.length - 112 * j) 112))])).stopped))]), (.int .i64 0)]) F869 rfl rfl (fun W => (rn_move (F869.get rfl))) fun _ F873 => ?_; clear F869
            refine qp 11 (.agg #[(.slice A860 ((d.wr a0 (ts ++ [encL g (a0 + ts.length) q ((x610.drop (112 * j)).take (min (x610.length - 112 * j) 112))])).sectors.length) c861), (.slice B862 ((d.wr a0 (ts ++ [encL g (a0 + ts.length) q ((x610.drop (112 * j)).take (min (x610.length - 112 * j) 112))])).pending.length) e863), (.int .i64 ((d.wr a0 (ts ++ [encL g (a0 + ts.length) q ((x610.drop (112 * j)).take (min (x610.length - 112 * j) 112))])).left)), (.bool ((d.wr a0 (ts ++ [encL g (a0 + ts.length) q ((x610.drop (112 * j)).take (min (x610.length - 112 * j) 112))])).stopped))]) F873 rfl rfl (fun W => (rn_extract (F873.get rfl) rfl)) fun _ F875 => ?_; clear F873
            refine qp 12 (.int .i64 0) F875 rfl rfl (fun W => (rn_extract (F875.get rfl) rfl)) fun _ F877 => ?_; clear F875
            refine any_one (i := 13) (by decide +kernel) rfl ?_
            refine o_store (cells := [(.slice A860 ((d.wr a0 (ts ++ [encL g (a0 + ts.length) q ((x610.drop (112 * j)).take (min (x610.length - 112 * j) 112))])).sectors.length) c861), (.slice B862 ((d.wr a0 (ts ++ [encL g (a0 + ts.length) q ((x610.drop (112 * j)).take (min (x610.length - 112 * j) 112))])).pending.length) e863), (.int .i64 ((d.wr a0 (ts ++ [encL g (a0 + ts.length) q ((x610.drop (112 * j)).take (min (x610.length - 112 * j) 112))])).left)), (.bool ((d.wr a0 (ts ++ [encL g (a0 + ts.length) q ((x610.drop (112 * j)).take (min (x610.length - 112 * j) 112))])).stopped))]) F877 rfl rfl rfl rfl (F877.get rfl) (F877.get rfl) b871 inf25 rfl (by simp [Value.oneCell']) ?_
            intro w878 b879 hg880; have z881 := hg880.size
            refine ⟨fun h => absurd h (by decide), ?_⟩
            refine qp 14 (.int .i64 0) F877 rfl rfl (fun W => (rn_assign (F877.get rfl))) fun _ F883 => ?_; clear F877
            refine any_nil (by decide +kernel) ?_
            refine hK822 _ _ ?_
            clear hK822
            have F884 := ((((((((((((((((((((((((((((((((F883.nil.c F883 18 rfl).c F883 121 rfl).c F883 117 rfl).c F883 17 rfl).c F883 16 rfl).c F883 15 rfl).c F883 111 rfl).c F883 110 rfl).c F883 109 rfl).c F883 108 rfl).c F883 13 rfl).c F883 95 rfl).c F883 87 rfl).c F883 60 rfl).c F883 59 rfl).c F883 58 rfl).c F883 57 rfl).c F883 10 rfl).c F883 52 rfl).c F883 9 rfl).c F883 43 rfl).c F883 29 rfl).c F883 8 rfl).c F883 22 rfl).c F883 7 rfl).c F883 6 rfl).c F883 5 rfl).c F883 4 rfl).c F883 3 rfl).c F883 2 rfl).c F883 1 rfl).c F883 0 rfl)
            clear F883
            refine wp_seq_k (fun K885 hK885 => ?_)
            refine wp_region_lit ?_
            refine qv 0 (.int .i64 0) F884 rfl (rn_move (F884.get rfl)) fun _ F887 => ?_; clear F884
            refine qv 1 (.bool false) F887 rfl (rn_neq' (F887.get rfl) rfl (by decide)) fun _ F889 => ?_; clear F887
            refine wpList_nil ?_
            refine hK885 _ _ ?_
            clear hK885
            refine wp_cond_false (c_false F889 rfl rfl) ?_
            refine wp_skip ?_
            refine hK821 _ _ ?_
            clear hK821
            refine wp_seq_k (fun K890 hK890 => ?_)
            refine wp_region_lit ?_
            refine qv 0 (.slice bA (x610.length - 112 * j) bc) F889 rfl (rn_move (F889.get rfl)) fun _ F892 => ?_; clear F889
            refine qv 1 (.int .i64 (min (x610.length - 112 * j) 112 : Nat)) F892 rfl (rn_move (F892.get rfl)) fun _ F894 => ?_; clear F892
            refine qv 2 (.slice (cutA bA bc (min (x610.length - 112 * j) 112) 1) ((x610.length - 112 * j) - (min (x610.length - 112 * j) 112)) (bc - (min (x610.length - 112 * j) 112))) F894 rfl (rn_cutLo (l := min (x610.length - 112 * j) 112) Try.underlying35 inf5 (F894.get rfl) (F894.get rfl) (by omega)) fun _ F896 => ?_; clear F894
            refine qv 3 (.slice (cutA bA bc (min (x610.length - 112 * j) 112) 1) ((x610.length - 112 * j) - (min (x610.length - 112 * j) 112)) (bc - (min (x610.length - 112 * j) 112))) F896 rfl (rn_assign (F896.get rfl)) fun _ F898 => ?_; clear F896
            refine qv 4 (.int .u8 0) F898 rfl (rn_assign rfl) fun _ F900 => ?_; clear F898
            refine wpList_nil ?_
            refine hK890 _ _ ?_
            clear hK890
            have F901 := (((((((((((((((((((((((((((((((((F900.nil.c F900 141 rfl).c F900 18 rfl).c F900 121 rfl).c F900 117 rfl).c F900 17 rfl).c F900 16 rfl).c F900 15 rfl).c F900 111 rfl).c F900 110 rfl).c F900 109 rfl).c F900 108 rfl).c F900 13 rfl).c F900 95 rfl).c F900 87 rfl).c F900 60 rfl).c F900 59 rfl).c F900 58 rfl).c F900 57 rfl).c F900 10 rfl).c F900 52 rfl).c F900 9 rfl).c F900 43 rfl).c F900 29 rfl).c F900 8 rfl).c F900 22 rfl).c F900 7 rfl).c F900 6 rfl).c F900 5 rfl).c F900 4 rfl).c F900 3 rfl).c F900 2 rfl).c F900 1 rfl).c F900 0 rfl)
            clear F900
            refine wp_region_lit ?_
            refine qv 0 (.int .i64 (a0 + ts.length : Nat)) F901 rfl (rn_move (F901.get rfl)) fun _ F903 => ?_; clear F901
            refine qv 1 (.int .i64 ((a0 + ts.length) + 1 : Nat)) F903 rfl (rn_addN (a := a0 + ts.length) (b := 1) (F903.get rfl) rfl (by omega)) fun _ F905 => ?_; clear F903
            refine qv 2 (.int .i64 ((a0 + ts.length) + 1 : Nat)) F905 rfl (rn_assign (F905.get rfl)) fun _ F907 => ?_; clear F905
            refine wpList_nil ?_
            refine hK686 _ _ ?_
            clear hK686
            refine wp_region_lit ?_
            refine qv 0 (.int .i64 (((secs x610.length : Nat) : Int) - (j : Nat))) F907 rfl (rn_move (F907.get rfl)) fun _ F909 => ?_; clear F907
            refine qv 1 (.int .i64 ((((secs x610.length : Nat) : Int) - (j : Nat)) - 1)) F909 rfl (rn_sub (F909.get rfl) rfl (by omega) (by omega)) fun _ F911 => ?_; clear F909
            refine qv 2 (.int .i64 ((((secs x610.length : Nat) : Int) - (j : Nat)) - 1)) F911 rfl (rn_assign (F911.get rfl)) fun _ F913 => ?_; clear F911
            refine wpList_nil ?_
            have d914 := (hd864.pres ((Pres.refl w866).grownN hg880 (fun h => by first | (simp only [Clip, ne_eq, not_true_eq_false, and_false, false_and] at h; done) | (have h2 := h.2; omega) | (rcases h.1 with h | h; (focus (first | (simp only [Clip, ne_eq, not_true_eq_false, and_false, false_and] at h; done) | (rcases h with h | h; (focus (simp only [Clip, ne_eq, not_true_eq_false, and_false, false_and] at h)); ((try simp only [Clip] at h); omega)))); omega))))
            have d915 := (hf666.pres (((((Pres.refl w654).ext hx824).ext hx851).ext hx867).grownN hg880 (fun h => by simp only [Clip] at h; omega)))
            have d916 := (hf667.pres (((((Pres.refl w654).ext hx824).ext hx851).ext hx867).grownN hg880 (fun h => by simp only [Clip] at h; omega)))
            have d917 := (hf668.pres (((((Pres.refl w654).ext hx824).ext hx851).ext hx867).grownN hg880 (fun h => by simp only [Clip] at h; omega)))
            have b918 := ((((b661.ext hx824).ext hx851).ext hx867).grownN hg880 (by omega))
            have b919 := ((((b663.ext hx824).ext hx851).ext hx867).grownN hg880 (by omega))
            have b920 := ((((b664.ext hx824).ext hx851).ext hx867).grownN hg880 (by omega))
            have b921 := ((((b665.ext hx824).ext hx851).ext hx867).grownN hg880 (by omega))
            refine ⟨⟨(j + 1), ts ++ [encL g (a0 + ts.length) q ((x610.drop (112 * j)).take (min (x610.length - 112 * j) 112))], 0, (cutA bA bc (min (x610.length - 112 * j) 112) 1), bc - (min (x610.length - 112 * j) 112), (d.wr a0 (ts ++ [encL g (a0 + ts.length) q ((x610.drop (112 * j)).take (min (x610.length - 112 * j) 112))])), A860, c861, B862, e863, (((((((((((((((((((((((((((((F913.nil.cons (q_get F913 (t := 17) rfl (by first | with_reducible rfl | (rw [hop]; done) | (congr 1; omega) | (congr 1; simp only [List.length_append, List.length_cons, List.length_nil]; omega) | rfl))).cons (q_get F913 (t := 16) rfl (by first | with_reducible rfl | (rw [hop]; done) | (congr 1; omega) | (congr 1; simp only [List.length_append, List.length_cons, List.length_nil]; omega) | rfl))).cons (q_get F913 (t := 15) rfl (by first | with_reducible rfl | (rw [hop]; done) | (congr 1; omega) | (congr 1; simp only [List.length_append, List.length_cons, List.length_nil]; omega) | rfl))).cons (q_get F913 (t := 111) rfl rfl)).cons (q_get F913 (t := 110) rfl rfl)).cons (q_get F913 (t := 109) rfl rfl)).cons (q_get F913 (t := 108) rfl rfl)).cons (q_get F913 (t := 13) rfl (by first | with_reducible rfl | (rw [hop]; done) | (congr 1; omega) | (congr 1; simp only [List.length_append, List.length_cons, List.length_nil]; omega) | rfl))).cons (q_get F913 (t := 95) rfl rfl)).cons (q_get F913 (t := 87) rfl rfl)).cons (q_get F913 (t := 60) rfl rfl)).cons (q_get F913 (t := 59) rfl rfl)).cons (q_get F913 (t := 58) rfl rfl)).cons (q_get F913 (t := 57) rfl rfl)).cons (q_get F913 (t := 10) rfl rfl)).cons (q_get F913 (t := 52) rfl rfl)).cons (q_get F913 (t := 9) rfl rfl)).cons (q_get F913 (t := 43) rfl rfl)).cons (q_get F913 (t := 29) rfl rfl)).cons (q_get F913 (t := 8) rfl rfl)).cons (q_get F913 (t := 22) rfl rfl)).cons (q_get F913 (t := 7) rfl rfl)).cons (q_get F913 (t := 6) rfl (by first | with_reducible rfl | (rw [hop]; done) | (congr 1; omega) | (congr 1; simp only [List.length_append, List.length_cons, List.length_nil]; omega) | rfl))).cons (q_get F913 (t := 5) rfl rfl)).cons (q_get F913 (t := 4) rfl rfl)).cons (q_get F913 (t := 3) rfl rfl)).cons (q_get F913 (t := 2) rfl rfl)).cons (q_get F913 (t := 1) rfl rfl)).cons (q_get F913 (t := 0) rfl rfl)), (by omega), (ts_next hp658 (by omega) htl (kind_mid hp660 (by omega))), rfl, (kind_next j), ((((((Ext.refl w).trans hx656).trans hx824).trans hx851).trans hx867).grownN hg880 (by omega)), b918, b879, b919, b920, b921, d915, d916, (Fl.piece d917), (RDk.sub (S := (Clip (Fr (fun b => (Clip (fun b => Fr S w b ∧ b ≠ g2 ∧ b ≠ g10 ∧ b ≠ g18 ∧ b ≠ g26 ∧ b ≠ g258) w654) b ∨ (fun b => b = g846) b) w850) w866)) d914 (fun b hb => by obtain ⟨hb, hlt⟩ := hb; rcases hb with (hb | hb) | hb; exact ⟨hb.1, by omega⟩; all_goals (try simp only [Clip] at hb); all_goals exact ⟨⟨.inr (by omega), by omega, by omega, by omega, by omega, by omega⟩, by omega⟩)), (by omega)⟩, ?_⟩
            rw [F913.get (t := 17) rfl, hL671.get (t := 17) rfl]; simp [intOf] <;> omega
          ·skip
           refine wp_cond_false (c_false F684 rfl (decide_eq_false hc685)) ?_
           refine wp_exit ?_
           refine exit_then ?_
           refine exit_then ?_
           refine exit_here ?_
           refine hK608 _ _ ?_
           clear hK608
           refine wp_region_lit ?_
           refine qv 0 (.int .i64 (k + 1 : Nat)) F684 rfl (rn_addN (a := k) (b := 1) (F684.get rfl) rfl (by omega)) fun _ F923 => ?_; clear F684
           refine qv 1 (.int .i64 (k + 1 : Nat)) F923 rfl (rn_move (F923.get rfl)) fun _ F925 => ?_; clear F923
           refine wpList_nil ?_
           refine ⟨⟨(k + 1), ts, yd, yA, yc, yB, ye, (((((((((((((((((((((((((F925.nil.cons (q_get F925 (t := 110) rfl (by first | with_reducible rfl | (rw [hop]; done) | (congr 1; omega) | (congr 1; simp only [List.length_append, List.length_cons, List.length_nil]; omega) | rfl))).cons (q_get F925 (t := 109) rfl rfl)).cons (q_get F925 (t := 108) rfl rfl)).cons (q_get F925 (t := 13) rfl (by first | with_reducible rfl | (rw [hop]; done) | (congr 1; omega) | (congr 1; simp only [List.length_append, List.length_cons, List.length_nil]; omega) | rfl))).cons (q_get F925 (t := 95) rfl rfl)).cons (q_get F925 (t := 87) rfl rfl)).cons (q_get F925 (t := 60) rfl rfl)).cons (q_get F925 (t := 59) rfl rfl)).cons (q_get F925 (t := 58) rfl rfl)).cons (q_get F925 (t := 57) rfl rfl)).cons (q_get F925 (t := 10) rfl rfl)).cons (q_get F925 (t := 52) rfl rfl)).cons (q_get F925 (t := 9) rfl rfl)).cons (q_get F925 (t := 43) rfl rfl)).cons (q_get F925 (t := 29) rfl rfl)).cons (q_get F925 (t := 8) rfl rfl)).cons (q_get F925 (t := 22) rfl rfl)).cons (q_get F925 (t := 7) rfl rfl)).cons (q_get F925 (t := 6) rfl (by first | with_reducible rfl | (rw [hop]; done) | (congr 1; omega) | (congr 1; simp only [List.length_append, List.length_cons, List.length_nil]; omega) | rfl))).cons (q_get F925 (t := 5) rfl rfl)).cons (q_get F925 (t := 4) rfl rfl)).cons (q_get F925 (t := 3) rfl rfl)).cons (q_get F925 (t := 2) rfl rfl)).cons (q_get F925 (t := 1) rfl rfl)).cons (q_get F925 (t := 0) rfl rfl)), (by omega), (ss_next hp586 hi611 hp658 (by omega)), hp659, ((Ext.refl w).trans hx656), b661, b662, b663, b664, b665, hf666, (RDk.sub (S := (Clip (fun b => Fr S w b ∧ b ≠ g2 ∧ b ≠ g10 ∧ b ≠ g18 ∧ b ≠ g26 ∧ b ≠ g258) w654)) hf669 (fun b hb => ⟨hb.1, by have := hb.2; omega⟩)), (by omega)⟩, ?_⟩
           rw [F925.get (t := 110) rfl, hL596.get (t := 110) rfl]; simp [intOf] <;> omega
         ·skip
          refine wp_cond_false (c_false F605 rfl (decide_eq_false hc607)) ?_
          refine wp_exit ?_
          refine exit_then ?_
          refine exit_then ?_
          refine exit_here ?_
          refine hK557 _ _ ?_
          clear hK557
          refine wp_seq_k (fun K926 hK926 => ?_)
          refine wp_seq_k (fun K927 hK927 => ?_)
          refine wp_region_lit ?_
          refine qv 0 (.agg #[(.slice xA xd.sectors.length xc), (.slice xB xd.pending.length xe), (.int .i64 xd.left), (.bool xd.stopped)]) F605 rfl (rn_loadBlk (F605.get rfl) b589 Try.underlying25 rfl inf25) fun _ F929 => ?_; clear F605
          refine wpl_op (i := 1) rfl (o_call F929 rfl rfl rfl rfl (rn_call (args1 (F929.get rfl)) rfl (by kernel_rfl)) (sync_any (S := (Clip (fun b => Fr S w b ∧ b ≠ g2 ∧ b ≠ g10 ∧ b ≠ g18 ∧ b ≠ g26 ∧ b ≠ g258) w582)) _ xd _ hf594) ?_)
          rintro _ w936 ⟨v935, rfl, hd934, hx937⟩
          obtain ⟨A930, c931, B932, e933, rfl, -, -⟩ := hd934.form
          have hd934 := hd934.clip
          refine ⟨_, rfl, ?_⟩; intro a938 F939; clear F929; have z940 := hx937.size
          refine qv 2 (.tuple #[(.agg #[(.slice A930 xd.sync.1.sectors.length c931), (.slice B932 xd.sync.1.pending.length e933), (.int .i64 xd.sync.1.left), (.bool xd.sync.1.stopped)]), (.int .i64 xd.sync.2)]) F939 rfl (rn_move (F939.get rfl)) fun _ F942 => ?_; clear F939
          refine qv 3 (.agg #[(.slice A930 xd.sync.1.sectors.length c931), (.slice B932 xd.sync.1.pending.length e933), (.int .i64 xd.sync.1.left), (.bool xd.sync.1.stopped)]) F942 rfl (rn_extract (F942.get rfl) rfl) fun _ F944 => ?_; clear F942
          refine qv 4 (.int .i64 xd.sync.2) F944 rfl (rn_extract (F944.get rfl) rfl) fun _ F946 => ?_; clear F944
          have b950 := (b589.ext hx937)
          refine wpl_op (i := 5) rfl (o_store (cells := [(.slice A930 xd.sync.1.sectors.length c931), (.slice B932 xd.sync.1.pending.length e933), (.int .i64 xd.sync.1.left), (.bool xd.sync.1.stopped)]) F946 rfl rfl rfl rfl (F946.get rfl) (F946.get rfl) b950 inf25 rfl (by simp [Value.oneCell']) ?_)
          intro w947 b948 hg949; have z951 := hg949.size
          refine qv 6 (.int .i64 xd.sync.2) F946 rfl (rn_assign (F946.get rfl)) fun _ F953 => ?_; clear F946
          refine wpList_nil ?_
          refine hK927 _ _ ?_
          clear hK927
          have F954 := ((((((((((((((((((((((((((F953.nil.c F953 111 rfl).c F953 110 rfl).c F953 109 rfl).c F953 108 rfl).c F953 13 rfl).c F953 95 rfl).c F953 87 rfl).c F953 60 rfl).c F953 59 rfl).c F953 58 rfl).c F953 57 rfl).c F953 10 rfl).c F953 52 rfl).c F953 9 rfl).c F953 43 rfl).c F953 29 rfl).c F953 8 rfl).c F953 22 rfl).c F953 7 rfl).c F953 6 rfl).c F953 5 rfl).c F953 4 rfl).c F953 3 rfl).c F953 2 rfl).c F953 1 rfl).c F953 0 rfl)
          clear F953
          refine wp_seq_k (fun K955 hK955 => ?_)
          refine wp_region_lit ?_
          refine qv 0 (.int .i64 xd.sync.2) F954 rfl (rn_move (F954.get rfl)) fun _ F957 => ?_; clear F954
          refine qv 1 (.bool (decide ((xd.sync.2 : Int) ≠ (0 : Int)))) F957 rfl (rn_neq (F957.get rfl) rfl) fun _ F959 => ?_; clear F957
          refine wpList_nil ?_
          refine hK955 _ _ ?_
          clear hK955
          by_cases hc960 : (xd.sync.2 : Int) ≠ (0 : Int)
          ·skip
           have h7 : xd.sync.2 ≠ 0 := by omega
           refine wp_cond_true (c_true F959 rfl (decide_eq_true hc960)) ?_
           refine wp_seq_k (fun K961 hK961 => ?_)
           have hx963 : ∃ W, w947.drew = W ∧ Ext w947 W := ⟨_, rfl, (Ext.refl _).drew⟩
           obtain ⟨w962, e964, hx963⟩ := hx963
           have z965 := hx963.size
           refine anyg_start (fun W => Ext w962 W ∧ Blk W g10 25 [(.slice A930 xd.sync.1.sectors.length c931), (.slice B932 xd.sync.1.pending.length e933), (.int .i64 xd.sync.1.left), (.bool xd.sync.1.stopped)] ∧ Blk W g18 29 [(.int .i64 0), (.slice none 0 0), (.int .i64 0)] ∧ Blk W g26 25 [(.slice none 0 0), (.slice none 0 0), (.int .i64 0), (.bool false)]) (fun i => i == 3 || i == 4) (fun W => Blk W g10 25 [(.slice A930 xd.sync.1.sectors.length c931), (.slice B932 xd.sync.1.pending.length e933), (.int .i64 xd.sync.1.left), (.bool xd.sync.1.stopped)]) 6 #[false, false, false, false, false, false] rfl rfl rfl ?_
           rw [e964]; clear e964
           refine gp 0 (.agg #[(.int .i64 0), (.slice none 0 0), (.int .i64 0)]) F959 rfl rfl (fun W => (rn_build (parts0 ) (by kernel_rfl))) fun _ F967 => ?_; clear F959
           have b969 := (b948.ext hx963)
           have hS968 : Blk w962 g10 25 [(.slice A930 xd.sync.1.sectors.length c931), (.slice B932 xd.sync.1.pending.length e933), (.int .i64 xd.sync.1.left), (.bool xd.sync.1.stopped)] := b969
           refine anyg_val2 (i := 1) (v := (.agg #[(.slice A930 xd.sync.1.sectors.length c931), (.slice B932 xd.sync.1.pending.length e933), (.int .i64 xd.sync.1.left), (.bool xd.sync.1.stopped)])) F967 (by decide +kernel) (by decide +kernel) rfl rfl rfl rfl (fun _ _ _ _ h => h) rfl hS968 (fun W hW => (rn_loadBlk (F967.get rfl) hW Try.underlying25 rfl inf25)) ?_
           intro a970 F971; clear F967
           refine gp 2 (.int .i64 xd.sync.2) F971 rfl rfl (fun W => (rn_move (F971.get rfl))) fun _ F973 => ?_; clear F971
           refine anyg_one (i := 3) (by decide +kernel) rfl ?_
           have b977 := (((b590.ext hx937).grownN hg949 (by omega)).ext hx963)
           refine o_store (cells := [(.int .i64 0), (.slice none 0 0), (.int .i64 0)]) F973 rfl rfl rfl rfl (F973.get rfl) (F973.get rfl) b977 inf29 rfl (by simp [Value.oneCell']) ?_
           intro w974 b975 hg976; have z978 := hg976.size
           have b979 := (b969.grownN hg976 (by omega))
           refine ⟨⟨fun h => absurd h (by decide), fun _ => b979⟩, ?_⟩
           refine anyg_one (i := 4) (by decide +kernel) rfl ?_
           have b983 := ((((b591.ext hx937).grownN hg949 (by omega)).ext hx963).grownN hg976 (by omega))
           refine o_store (cells := [(.slice A930 xd.sync.1.sectors.length c931), (.slice B932 xd.sync.1.pending.length e933), (.int .i64 xd.sync.1.left), (.bool xd.sync.1.stopped)]) F973 rfl rfl rfl rfl (F973.get rfl) (F973.get rfl) b983 inf25 rfl (by simp [Value.oneCell']) ?_
           intro w980 b981 hg982; have z984 := hg982.size
           have b985 := (b979.grownN hg982 (by omega))
           refine ⟨⟨fun h => absurd h (by decide), fun _ => b985⟩, ?_⟩
           refine gp 5 (.int .i64 xd.sync.2) F973 rfl rfl (fun W => (rn_assign (F973.get rfl))) fun _ F987 => ?_; clear F973
           refine anyg_nil (by decide +kernel) ?_
           refine hK961 _ _ ?_
           clear hK961
           have F988 := (((((((((((((((((((((((((((F987.nil.c F987 157 rfl).c F987 111 rfl).c F987 110 rfl).c F987 109 rfl).c F987 108 rfl).c F987 13 rfl).c F987 95 rfl).c F987 87 rfl).c F987 60 rfl).c F987 59 rfl).c F987 58 rfl).c F987 57 rfl).c F987 10 rfl).c F987 52 rfl).c F987 9 rfl).c F987 43 rfl).c F987 29 rfl).c F987 8 rfl).c F987 22 rfl).c F987 7 rfl).c F987 6 rfl).c F987 5 rfl).c F987 4 rfl).c F987 3 rfl).c F987 2 rfl).c F987 1 rfl).c F987 0 rfl)
           clear F987
           refine wp_ret ?_
           refine ret_then ?_
           have b989 := (b975.grownN hg982 (by omega))
           refine retCC1 F988 rfl rfl rfl rfl b989 Try.underlying29 rfl inf29 b981 Try.underlying25 rfl inf25 ?_
           have hall := wr_all (m := m) ha0 hns hgg hp586 (by omega) hp587
           have d990 := (hd934.pres (((((Pres.refl w936).grownN hg949 (fun h => by first | (simp only [Clip, ne_eq, not_true_eq_false, and_false, false_and] at h; done) | (have h2 := h.2; omega) | (rcases h.1 with h | h; (focus (first | (simp only [Clip, ne_eq, not_true_eq_false, and_false, false_and] at h; done) | (rcases h with h | h; (focus (simp only [Clip, ne_eq, not_true_eq_false, and_false, false_and] at h)); ((try simp only [Clip] at h); omega)))); omega))).ext hx963).grownN hg976 (fun h => by first | (simp only [Clip, ne_eq, not_true_eq_false, and_false, false_and] at h; done) | (have h2 := h.2; omega) | (rcases h.1 with h | h; (focus (first | (simp only [Clip, ne_eq, not_true_eq_false, and_false, false_and] at h; done) | (rcases h with h | h; (focus (simp only [Clip, ne_eq, not_true_eq_false, and_false, false_and] at h)); ((try simp only [Clip] at h); omega)))); omega))).grownN hg982 (fun h => by first | (simp only [Clip, ne_eq, not_true_eq_false, and_false, false_and] at h; done) | (have h2 := h.2; omega) | (rcases h.1 with h | h; (focus (first | (simp only [Clip, ne_eq, not_true_eq_false, and_false, false_and] at h; done) | (rcases h with h | h; (focus (simp only [Clip, ne_eq, not_true_eq_false, and_false, false_and] at h)); ((try simp only [Clip] at h); omega)))); omega))))
           have hsy := sync_7 hgo hsl (by rw [← hall]; exact h7)
           rw [← hall] at hsy
           exact lsync_bad hsy d990 (fun b hb => by rcases hb.1 with h | h; exact h.1.1; exact .inr (by omega)) (((((((Ext.refl w).trans hx584).trans hx937).grownN hg949 (by omega)).trans hx963).grownN hg976 (by omega)).grownN hg982 (by omega))
          ·skip
           have h7 : xd.sync.2 = 0 := by omega
           refine wp_cond_false (c_false F959 rfl (decide_eq_false hc960)) ?_
           refine wp_skip ?_
           refine hK926 _ _ ?_
           clear hK926
           refine wp_seq_k (fun K991 hK991 => ?_)
           refine wp_region_lit ?_
           refine qv 0 (.pointer (some ⟨g2, 1, none⟩)) F959 rfl (rn_field Try.underlying29 rfl (by kernel_rfl) (F959.get rfl) rfl) fun _ F993 => ?_; clear F959
           have b994 := ((b588.ext hx937).grownN hg949 (by omega))
           refine qv 1 (.slice A R.length c) F993 rfl (rn_load (isAgg_no Try.underlying22 rfl) (F993.get rfl) (b994.rule.1 1)) fun _ F996 => ?_; clear F993
           refine qv 2 (.int .i64 (R.length : Nat)) F996 rfl (rn_len_slice Try.underlying22 (F996.get rfl)) fun _ F998 => ?_; clear F996
           refine qv 3 (.pointer (some ⟨g2, 2, none⟩)) F998 rfl (rn_field Try.underlying29 rfl (by kernel_rfl) (F998.get rfl) rfl) fun _ F1000 => ?_; clear F998
           refine wpl_op (i := 4) rfl (o_store1 (new := [(.int .i64 m), (.slice A R.length c), (.int .i64 (R.length : Nat))]) F1000 rfl rfl rfl rfl (F1000.get rfl) (F1000.get rfl) b994 inf3 (by simp) rfl rfl ?_)
           intro w1001 b1002 hg1003; have z1004 := hg1003.size
           refine wpList_nil ?_
           refine hK991 _ _ ?_
           clear hK991
           have F1005 := (((((((((((((((((((((((((((F1000.nil.c F1000 157 rfl).c F1000 111 rfl).c F1000 110 rfl).c F1000 109 rfl).c F1000 108 rfl).c F1000 13 rfl).c F1000 95 rfl).c F1000 87 rfl).c F1000 60 rfl).c F1000 59 rfl).c F1000 58 rfl).c F1000 57 rfl).c F1000 10 rfl).c F1000 52 rfl).c F1000 9 rfl).c F1000 43 rfl).c F1000 29 rfl).c F1000 8 rfl).c F1000 22 rfl).c F1000 7 rfl).c F1000 6 rfl).c F1000 5 rfl).c F1000 4 rfl).c F1000 3 rfl).c F1000 2 rfl).c F1000 1 rfl).c F1000 0 rfl)
           clear F1000
           refine wp_seq_k (fun K1006 hK1006 => ?_)
           have hx1008 : ∃ W, w1001.drew = W ∧ Ext w1001 W := ⟨_, rfl, (Ext.refl _).drew⟩
           obtain ⟨w1007, e1009, hx1008⟩ := hx1008
           have z1010 := hx1008.size
           refine anyg_start (fun W => Ext w1007 W ∧ Blk W g2 29 [(.int .i64 m), (.slice A R.length c), (.int .i64 (R.length : Nat))] ∧ Blk W g10 25 [(.slice A930 xd.sync.1.sectors.length c931), (.slice B932 xd.sync.1.pending.length e933), (.int .i64 xd.sync.1.left), (.bool xd.sync.1.stopped)] ∧ Blk W g18 29 [(.int .i64 0), (.slice none 0 0), (.int .i64 0)] ∧ Blk W g26 25 [(.slice none 0 0), (.slice none 0 0), (.int .i64 0), (.bool false)]) (fun i => i == 2 || i == 3) (fun W => Blk W g2 29 [(.int .i64 m), (.slice A R.length c), (.int .i64 (R.length : Nat))] ∧ Blk W g10 25 [(.slice A930 xd.sync.1.sectors.length c931), (.slice B932 xd.sync.1.pending.length e933), (.int .i64 xd.sync.1.left), (.bool xd.sync.1.stopped)]) 5 #[false, false, false, false, false] rfl rfl rfl ?_
           rw [e1009]; clear e1009
           have b1012 := (b1002.ext hx1008)
           have b1013 := ((b948.grownN hg1003 (by omega)).ext hx1008)
           have b1014 := ((((b590.ext hx937).grownN hg949 (by omega)).grownN hg1003 (by omega)).ext hx1008)
           have b1015 := ((((b591.ext hx937).grownN hg949 (by omega)).grownN hg1003 (by omega)).ext hx1008)
           have hS1011 : Ext w1007 w1007 ∧ Blk w1007 g2 29 [(.int .i64 m), (.slice A R.length c), (.int .i64 (R.length : Nat))] ∧ Blk w1007 g10 25 [(.slice A930 xd.sync.1.sectors.length c931), (.slice B932 xd.sync.1.pending.length e933), (.int .i64 xd.sync.1.left), (.bool xd.sync.1.stopped)] ∧ Blk w1007 g18 29 [(.int .i64 0), (.slice none 0 0), (.int .i64 0)] ∧ Blk w1007 g26 25 [(.slice none 0 0), (.slice none 0 0), (.int .i64 0), (.bool false)] := ⟨(Ext.refl w1007), b1012, b1013, b1014, b1015⟩
           refine gs 0 (.agg #[(.int .i64 m), (.slice A R.length c), (.int .i64 (R.length : Nat))]) F1005 rfl rfl hS1011 (fun W hW => (rn_loadBlk (F1005.get rfl) hW.2.1 Try.underlying29 rfl inf29)) fun _ F1017 => ?_; clear F1005
           have hS1018 : Blk w1007 g2 29 [(.int .i64 m), (.slice A R.length c), (.int .i64 (R.length : Nat))] ∧ Blk w1007 g10 25 [(.slice A930 xd.sync.1.sectors.length c931), (.slice B932 xd.sync.1.pending.length e933), (.int .i64 xd.sync.1.left), (.bool xd.sync.1.stopped)] := ⟨b1012, b1013⟩
           refine anyg_val2 (i := 1) (v := (.agg #[(.slice A930 xd.sync.1.sectors.length c931), (.slice B932 xd.sync.1.pending.length e933), (.int .i64 xd.sync.1.left), (.bool xd.sync.1.stopped)])) F1017 (by decide +kernel) (by decide +kernel) rfl rfl rfl rfl (fun _ _ _ _ h => h) rfl hS1018 (fun W hW => (rn_loadBlk (F1017.get rfl) hW.2 Try.underlying25 rfl inf25)) ?_
           intro a1019 F1020; clear F1017
           refine anyg_one (i := 2) (by decide +kernel) rfl ?_
           refine o_store (cells := [(.int .i64 m), (.slice A R.length c), (.int .i64 (R.length : Nat))]) F1020 rfl rfl rfl rfl (F1020.get rfl) (F1020.get rfl) b1014 inf29 rfl (by simp [Value.oneCell']) ?_
           intro w1021 b1022 hg1023; have z1024 := hg1023.size
           have b1025 := (b1012.grownN hg1023 (by omega))
           have b1026 := (b1013.grownN hg1023 (by omega))
           refine ⟨⟨fun h => absurd h (by decide), fun _ => ⟨b1025, b1026⟩⟩, ?_⟩
           refine anyg_one (i := 3) (by decide +kernel) rfl ?_
           have b1030 := (b1015.grownN hg1023 (by omega))
           refine o_store (cells := [(.slice A930 xd.sync.1.sectors.length c931), (.slice B932 xd.sync.1.pending.length e933), (.int .i64 xd.sync.1.left), (.bool xd.sync.1.stopped)]) F1020 rfl rfl rfl rfl (F1020.get rfl) (F1020.get rfl) b1030 inf25 rfl (by simp [Value.oneCell']) ?_
           intro w1027 b1028 hg1029; have z1031 := hg1029.size
           have b1032 := (b1025.grownN hg1029 (by omega))
           have b1033 := (b1026.grownN hg1029 (by omega))
           refine ⟨⟨fun h => absurd h (by decide), fun _ => ⟨b1032, b1033⟩⟩, ?_⟩
           refine gp 4 (.int .i64 0) F1020 rfl rfl (fun W => (rn_assign rfl)) fun _ F1035 => ?_; clear F1020
           refine anyg_nil (by decide +kernel) ?_
           refine hK1006 _ _ ?_
           clear hK1006
           refine wp_ret ?_
           have b1036 := (b1022.grownN hg1029 (by omega))
           refine retCC1 F1035 rfl rfl rfl rfl b1036 Try.underlying29 rfl inf29 b1028 Try.underlying25 rfl inf25 ?_
           have hall := wr_all (m := m) ha0 hns hgg hp586 (by omega) hp587
           have d1037 := (hd934.pres ((((((Pres.refl w936).grownN hg949 (fun h => by first | (simp only [Clip, ne_eq, not_true_eq_false, and_false, false_and] at h; done) | (have h2 := h.2; omega) | (rcases h.1 with h | h; (focus (first | (simp only [Clip, ne_eq, not_true_eq_false, and_false, false_and] at h; done) | (rcases h with h | h; (focus (simp only [Clip, ne_eq, not_true_eq_false, and_false, false_and] at h)); ((try simp only [Clip] at h); omega)))); omega))).grownN hg1003 (fun h => by first | (simp only [Clip, ne_eq, not_true_eq_false, and_false, false_and] at h; done) | (have h2 := h.2; omega) | (rcases h.1 with h | h; (focus (first | (simp only [Clip, ne_eq, not_true_eq_false, and_false, false_and] at h; done) | (rcases h with h | h; (focus (simp only [Clip, ne_eq, not_true_eq_false, and_false, false_and] at h)); ((try simp only [Clip] at h); omega)))); omega))).ext hx1008).grownN hg1023 (fun h => by first | (simp only [Clip, ne_eq, not_true_eq_false, and_false, false_and] at h; done) | (have h2 := h.2; omega) | (rcases h.1 with h | h; (focus (first | (simp only [Clip, ne_eq, not_true_eq_false, and_false, false_and] at h; done) | (rcases h with h | h; (focus (simp only [Clip, ne_eq, not_true_eq_false, and_false, false_and] at h)); ((try simp only [Clip] at h); omega)))); omega))).grownN hg1029 (fun h => by first | (simp only [Clip, ne_eq, not_true_eq_false, and_false, false_and] at h; done) | (have h2 := h.2; omega) | (rcases h.1 with h | h; (focus (first | (simp only [Clip, ne_eq, not_true_eq_false, and_false, false_and] at h; done) | (rcases h with h | h; (focus (simp only [Clip, ne_eq, not_true_eq_false, and_false, false_and] at h)); ((try simp only [Clip] at h); omega)))); omega))))
           have hsy := sync_8 hgo hsl (by rw [← hall]; exact h7)
           rw [← hall] at hsy
           have d1038 := (hnc.pres ((((((((Pres.refl w).ext hx584).ext hx937).grownN hg949 (fun h => by simp only [Clip] at h; omega)).grownN hg1003 (fun h => by simp only [Clip] at h; omega)).ext hx1008).grownN hg1023 (fun h => by simp only [Clip] at h; omega)).grownN hg1029 (fun h => by simp only [Clip] at h; omega)))
           exact lsync_fin hsy d1038 (fun b hb => .inl hb.1) d1037 (fun b hb => by rcases hb.1 with h | h; exact h.1.1; exact .inr (by omega)) ((((((((Ext.refl w).trans hx584).trans hx937).grownN hg949 (by omega)).grownN hg1003 (by omega)).trans hx1008).grownN hg1023 (by omega)).grownN hg1029 (by omega))
      ·skip
       have heq := hc459
       refine qk 10 F458 rfl (not_f (decide_eq_false hc459)) fun _ F1040 => ?_; clear F458
       refine qk 11 F1040 rfl (not_f (decide_eq_false hc459)) fun _ F1042 => ?_; clear F1040
       refine qk 12 F1042 rfl (not_f (decide_eq_false hc459)) fun _ F1044 => ?_; clear F1042
       refine qp 13 (.bool true) F1044 rfl rfl (fun W => (rn_pickT (c_true F1044 rfl (not_f (decide_eq_false hc459))) rfl)) fun _ F1046 => ?_; clear F1044
       refine any_nil (by decide +kernel) ?_
       refine hK424 _ _ ?_
       clear hK424
       have F1047 := ((((((((((((((((((((F1046.nil.c F1046 87 rfl).c F1046 60 rfl).c F1046 59 rfl).c F1046 58 rfl).c F1046 57 rfl).c F1046 10 rfl).c F1046 52 rfl).c F1046 9 rfl).c F1046 43 rfl).c F1046 29 rfl).c F1046 8 rfl).c F1046 22 rfl).c F1046 7 rfl).c F1046 6 rfl).c F1046 5 rfl).c F1046 4 rfl).c F1046 3 rfl).c F1046 2 rfl).c F1046 1 rfl).c F1046 0 rfl)
       clear F1046
       refine wp_cond_true (c_true F1047 rfl rfl) ?_
       refine wp_seq_k (fun K1048 hK1048 => ?_)
       refine wp_region_lit ?_
       refine qv 0 (.agg #[(.int .i64 0), (.slice none 0 0), (.int .i64 0)]) F1047 rfl (rn_build (parts0 ) (by kernel_rfl)) fun _ F1050 => ?_; clear F1047
       refine qv 1 (.agg #[(.slice none 0 0), (.slice none 0 0), (.int .i64 0), (.bool false)]) F1050 rfl (rn_build (parts0 ) (by kernel_rfl)) fun _ F1052 => ?_; clear F1050
       have b1056 := ((b327.ext hx426).ext hx449)
       refine wpl_op (i := 2) rfl (o_store (cells := [(.int .i64 0), (.slice none 0 0), (.int .i64 0)]) F1052 rfl rfl rfl rfl (F1052.get rfl) (F1052.get rfl) b1056 inf29 rfl (by simp [Value.oneCell']) ?_)
       intro w1053 b1054 hg1055; have z1057 := hg1055.size
       have b1061 := (((b328.ext hx426).ext hx449).grownN hg1055 (by omega))
       refine wpl_op (i := 3) rfl (o_store (cells := [(.slice none 0 0), (.slice none 0 0), (.int .i64 0), (.bool false)]) F1052 rfl rfl rfl rfl (F1052.get rfl) (F1052.get rfl) b1061 inf25 rfl (by simp [Value.oneCell']) ?_)
       intro w1058 b1059 hg1060; have z1062 := hg1060.size
       refine qv 4 (.int .i64 390) F1052 rfl (rn_assign rfl) fun _ F1064 => ?_; clear F1052
       refine wpList_nil ?_
       refine hK1048 _ _ ?_
       clear hK1048
       refine wp_ret ?_
       refine ret_then ?_
       have b1065 := (b1054.grownN hg1060 (by omega))
       refine retCC1 F1064 rfl rfl rfl rfl b1065 Try.underlying29 rfl inf29 b1059 Try.underlying25 rfl inf25 ?_
       exact lsync_err (sync_5 hlc hmn hop (.inl fun e => heq ((open_good hop).1.trans e))) ((((((Ext.refl w).trans hx322).trans hx426).trans hx449).grownN hg1055 (by omega)).grownN hg1060 (by omega))

theorem sync9_at {v u : Value} (m : Int) (R : List (List UInt8)) (s : Int) (d : Dk) (w : World) (hn : RBss S w v R) (hb : ∀ x ∈ R, x.length ≤ 140737488355328) (hu : usedL R < 9223372036854775808) (hd : RDk S w u d) :
  Calls Try.prog 21 #[.agg #[.int .i64 m, v, .int .i64 s], u] w (SyncRet S w ((Lg.mk m R s).sync d)) := by
 obtain ⟨A, c, rfl, _⟩ := hn.form
 obtain ⟨X, x, Y, y, rfl, -, -⟩ := hd.form
 exact sync9_any m A c R s X x Y y d w hn hb hu hd

end Go.Proofs.Ytfmhnplkpohogaa
