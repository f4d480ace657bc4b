/- The law JournalAppendSpec, walked. -/
import Derived.Test.YtfmhnplkpohogaaProg
import Derived.Test.YtfmhnplkpohogaaBvnH
import Derived.KernelRfl
import Derived.Test.YtfmhnplkpohogaaBvnA
set_option linter.unusedVariables false
set_option linter.unusedSimpArgs false
namespace Go.Proofs.Ytfmhnplkpohogaa
open Go.RowKit

variable {S S' : Nat → Prop}

set_option maxRecDepth 100000 in
set_option maxHeartbeats 4000000 in
theorem jappendSpec_any (m : Int) (A : Option Addr) (c : Nat) (R : List (List UInt8)) (s : Int) (B : Option Addr) (e : Nat) (b : List UInt8) (w : World) (hn : RBss S w (.slice A R.length c) R) (hb : ∀ x ∈ R, x.length ≤ 140737488355328) (hR : R.length ≤ 5864062014804) (hf : Fl S w 1 (.slice B b.length e) b.length (byteVals b)) (hbb : b.length ≤ 140737488355328) :
  Calls Try.prog 4 #[.agg #[.int .i64 m, .slice A R.length c, .int .i64 s], .slice B b.length e] w (RB w true) := by
 have hnc := RBss.clip hn
 obtain ⟨-, hcR1, hcR2⟩ := RBss.at hn
 have hfc : Fl (Clip S w) w 1 (.slice B b.length e) b.length (byteVals b) := hf.clip
 have hfcc := (Fl.cel hfc).2.1
 refine calls_enter (l := [(.agg #[(.int .i64 m), (.slice A R.length c), (.int .i64 s)]), (.slice B b.length e)]) Try.func4 rfl rfl rfl (fun aA hF => ?_)
 refine wp_seq_k (fun K1 hK1 => ?_)
 refine wp_region_lit ?_
 refine wpl_op (i := 0) rfl (o_new (fun g => (.pointer (some ⟨g, 0, none⟩))) [(.int .i64 m), (.slice A R.length c), (.int .i64 s)] 29 hF rfl rfl rfl rfl (rn_box (hF.get rfl) (by kernel_rfl)) ?_)
 intro g2 w3 a8 F9 z6 z7 b4 hx5; clear hF
 refine qv 1 (.bool false) F9 rfl (rn_assign rfl) fun _ F11 => ?_; clear F9
 refine wpList_nil ?_
 refine hK1 _ _ ?_
 clear hK1
 refine wp_seq_k (fun K12 hK12 => ?_)
 refine wp_seq_k (fun K13 hK13 => ?_)
 refine wp_region_lit ?_
 refine wpl_op (i := 0) rfl (o_call F11 rfl rfl rfl rfl (rn_call (args0 ) rfl (by kernel_rfl)) (sane9_any _) ?_)
 rintro _ w14 ⟨rfl, hx15⟩
 refine ⟨_, rfl, ?_⟩; intro a16 F17; clear F11; have z18 := hx15.size
 refine qv 1 (.bool false) F17 rfl (rn_not' (F17.get rfl) rfl) fun _ F20 => ?_; clear F17
 refine wpList_nil ?_
 refine hK13 _ _ ?_
 clear hK13
 refine wp_cond_false (c_false F20 rfl rfl) ?_
 refine wp_skip ?_
 refine hK12 _ _ ?_
 clear hK12
 refine wp_seq_k (fun K21 hK21 => ?_)
 refine wp_seq_k (fun K22 hK22 => ?_)
 refine wp_region_lit ?_
 refine qv 0 (.agg #[(.slice none 0 0), (.slice none 0 0), (.int .i64 0), (.bool false)]) F20 rfl (rn_build (parts0 ) (by kernel_rfl)) fun _ F24 => ?_; clear F20
 refine qv 1 (.pointer (some ⟨g2, 1, none⟩)) F24 rfl (rn_field Try.underlying29 rfl (by kernel_rfl) (F24.get rfl) rfl) fun _ F26 => ?_; clear F24
 have b27 := (b4.ext hx15)
 refine qv 2 (.slice A R.length c) F26 rfl (rn_load (isAgg_no Try.underlying22 rfl) (F26.get rfl) (b27.rule.1 1)) fun _ F29 => ?_; clear F26
 have d30 := ((hnc.ext hx5).ext hx15)
 refine wpl_op (i := 3) rfl (o_call F29 rfl rfl rfl rfl (rn_call (args2 (F29.get rfl) (F29.get rfl)) rfl (by kernel_rfl)) (few9_at (v := (.slice A R.length c)) none 0 0 none 0 0 0 false R _ d30 hb) ?_)
 rintro _ w33 ⟨bq31, rfl, hfew32, hx34⟩
 refine ⟨_, rfl, ?_⟩; intro a35 F36; clear F29; have z37 := hx34.size
 refine qv 4 (.bool (!bq31)) F36 rfl (rn_not' (F36.get rfl) rfl) fun _ F39 => ?_; clear F36
 refine qv 5 (.bool (!bq31)) F39 rfl (rn_move (F39.get rfl)) fun _ F41 => ?_; clear F39
 rcases Bool.eq_false_or_eq_true bq31 with hc42 | hc42
 ·skip
  refine qg 6 (.slice B b.length e) F41 (not_t hc42) (rn_move (F41.get rfl)) fun _ F44 => ?_; clear F41
  refine qg 7 (.int .i64 (b.length : Nat)) F44 (not_t hc42) (rn_len_slice Try.underlying35 (F44.get rfl)) fun _ F46 => ?_; clear F44
  refine qg 8 (.bool (decide ((70000 : Int) < ((b.length : Nat) : Int)))) F46 (not_t hc42) (rn_gtr (F46.get rfl) rfl) fun _ F48 => ?_; clear F46
  refine qv 9 (.bool (decide ((70000 : Int) < ((b.length : Nat) : Int)))) F48 rfl (rn_pickF (c_false F48 rfl (not_t hc42)) (F48.get rfl)) fun _ F50 => ?_; clear F48
  refine wpList_nil ?_
  refine hK22 _ _ ?_
  clear hK22
  have F51 := ((((((F50.nil.c F50 20 rfl).c F50 10 rfl).c F50 4 rfl).c F50 2 rfl).c F50 1 rfl).c F50 0 rfl)
  clear F50
  by_cases hc52 : (70000 : Int) < ((b.length : Nat) : Int)
  ·skip
   refine wp_cond_true (c_true F51 rfl (decide_eq_true hc52)) ?_
   refine wp_seq_k (fun K53 hK53 => ?_)
   refine wp_region_lit ?_
   refine qv 0 (.bool true) F51 rfl (rn_assign rfl) fun _ F55 => ?_; clear F51
   refine wpList_nil ?_
   refine hK53 _ _ ?_
   clear hK53
   refine wp_ret ?_
   refine ret_then ?_
   refine ret1 F55 rfl rfl ?_
   exact ⟨congrArg (fun b => Ending.returned (.bool b)) (rfl : true = true), ((((Ext.refl w).trans hx5).trans hx15).trans hx34)⟩
  ·skip
   refine wp_cond_false (c_false F51 rfl (decide_eq_false hc52)) ?_
   refine wp_skip ?_
   refine hK21 _ _ ?_
   clear hK21
   refine wp_seq_k (fun K56 hK56 => ?_)
   refine wp_region_lit ?_
   have b57 := (b27.ext hx34)
   refine qv 0 (.agg #[(.int .i64 m), (.slice A R.length c), (.int .i64 s)]) F51 rfl (rn_loadBlk (F51.get rfl) b57 Try.underlying29 rfl inf29) fun _ F59 => ?_; clear F51
   refine qv 1 (.slice B b.length e) F59 rfl (rn_move (F59.get rfl)) fun _ F61 => ?_; clear F59
   have d62 := (((hnc.ext hx5).ext hx15).ext hx34)
   have d63 := (((hfc.ext hx5).ext hx15).ext hx34)
   refine wpl_op (i := 2) rfl (o_call F61 rfl rfl rfl rfl (rn_call (args2 (F61.get rfl) (F61.get rfl)) rfl (by kernel_rfl)) (app_at (S := (fun b => (Clip S w) b ∨ (Clip S w) b)) (v := (.slice A R.length c)) (u := (.slice B b.length e)) (n := b.length) m R s b _ (RBss.sub d62 fun b hb => .inl hb) hb (by omega) (Fl.sub d63 fun b hb => .inr hb) (by omega)) ?_)
   rintro _ w67 ⟨A64, c65, rfl, hb66, hx68⟩
   refine ⟨_, rfl, ?_⟩; intro a69 F70; clear F61; have z71 := hx68.size
   have hf72 := RBss.clip hb66
   obtain ⟨-, z73, z74⟩ := RBss.at hb66
   refine qv 3 (.tuple #[(.agg #[(.int .i64 (((Lg.mk m R s).append b).1.many)), (.slice A64 (((Lg.mk m R s).append b).1.recs.length) c65), (.int .i64 (((Lg.mk m R s).append b).1.synced))]), (.int .i64 (((Lg.mk m R s).append b).2))]) F70 rfl (rn_move (F70.get rfl)) fun _ F76 => ?_; clear F70
   refine qv 4 (.agg #[(.int .i64 (((Lg.mk m R s).append b).1.many)), (.slice A64 (((Lg.mk m R s).append b).1.recs.length) c65), (.int .i64 (((Lg.mk m R s).append b).1.synced))]) F76 rfl (rn_extract (F76.get rfl) rfl) fun _ F78 => ?_; clear F76
   refine qv 5 (.int .i64 (((Lg.mk m R s).append b).2)) F78 rfl (rn_extract (F78.get rfl) rfl) fun _ F80 => ?_; clear F78
   refine wpl_op (i := 6) rfl (o_new (fun g => (.pointer (some ⟨g, 0, none⟩))) [(.int .i64 0), (.slice none 0 0), (.int .i64 0)] 29 F80 rfl rfl rfl rfl (by kernel_rfl) ?_)
   intro g81 w82 a87 F88 z85 z86 b83 hx84; clear F80
   refine wpl_op (i := 7) rfl (o_store (cells := [(.int .i64 (((Lg.mk m R s).append b).1.many)), (.slice A64 (((Lg.mk m R s).append b).1.recs.length) c65), (.int .i64 (((Lg.mk m R s).append b).1.synced))]) F88 rfl rfl rfl rfl (F88.get rfl) (F88.get rfl) b83 inf29 rfl (by simp [Value.oneCell']) ?_)
   intro w89 b90 hg91; have z92 := hg91.size
   refine qv 8 (.int .i64 (((Lg.mk m R s).append b).2)) F88 rfl (rn_assign (F88.get rfl)) fun _ F94 => ?_; clear F88
   refine wpList_nil ?_
   refine hK56 _ _ ?_
   clear hK56
   have F95 := ((((((((F94.nil.c F94 6 rfl).c F94 5 rfl).c F94 20 rfl).c F94 10 rfl).c F94 4 rfl).c F94 2 rfl).c F94 1 rfl).c F94 0 rfl)
   clear F94
   refine wp_seq_k (fun K96 hK96 => ?_)
   refine wp_region_lit ?_
   have b97 := (((b57.ext hx68).ext hx84).grownN hg91 (by omega))
   refine qv 0 (.agg #[(.int .i64 m), (.slice A R.length c), (.int .i64 s)]) F95 rfl (rn_loadBlk (F95.get rfl) b97 Try.underlying29 rfl inf29) fun _ F99 => ?_; clear F95
   refine qv 1 (.slice B b.length e) F99 rfl (rn_move (F99.get rfl)) fun _ F101 => ?_; clear F99
   have d102 := (hnc.pres (((((((Pres.refl w).ext hx5).ext hx15).ext hx34).ext hx68).ext hx84).grownN hg91 (fun h => by simp only [Clip] at h; omega)))
   have d103 := (hfc.pres (((((((Pres.refl w).ext hx5).ext hx15).ext hx34).ext hx68).ext hx84).grownN hg91 (fun h => by simp only [Clip] at h; omega)))
   refine wpl_op (i := 2) rfl (o_call F101 rfl rfl rfl rfl (rn_call (args2 (F101.get rfl) (F101.get rfl)) rfl (by kernel_rfl)) (rapp_at (S := (fun b => (Clip S w) b ∨ (Clip S w) b)) (v := (.slice A R.length c)) (u := (.slice B b.length e)) (n := b.length) m R s b _ (RBss.sub d102 fun b hb => .inl hb) hb (by omega) (Fl.sub d103 fun b hb => .inr hb) (by omega)) ?_)
   rintro _ w107 ⟨A104, c105, rfl, hb106, hx108⟩
   refine ⟨_, rfl, ?_⟩; intro a109 F110; clear F101; have z111 := hx108.size
   have hf112 := RBss.clip hb106
   obtain ⟨-, z113, z114⟩ := RBss.at hb106
   refine qv 3 (.tuple #[(.agg #[(.int .i64 (((Lg.mk m R s).append b).1.many)), (.slice A104 (((Lg.mk m R s).append b).1.recs.length) c105), (.int .i64 (((Lg.mk m R s).append b).1.synced))]), (.int .i64 (((Lg.mk m R s).append b).2))]) F110 rfl (rn_move (F110.get rfl)) fun _ F116 => ?_; clear F110
   refine qv 4 (.agg #[(.int .i64 (((Lg.mk m R s).append b).1.many)), (.slice A104 (((Lg.mk m R s).append b).1.recs.length) c105), (.int .i64 (((Lg.mk m R s).append b).1.synced))]) F116 rfl (rn_extract (F116.get rfl) rfl) fun _ F118 => ?_; clear F116
   refine qv 5 (.int .i64 (((Lg.mk m R s).append b).2)) F118 rfl (rn_extract (F118.get rfl) rfl) fun _ F120 => ?_; clear F118
   refine wpl_op (i := 6) rfl (o_new (fun g => (.pointer (some ⟨g, 0, none⟩))) [(.int .i64 0), (.slice none 0 0), (.int .i64 0)] 29 F120 rfl rfl rfl rfl (by kernel_rfl) ?_)
   intro g121 w122 a127 F128 z125 z126 b123 hx124; clear F120
   refine wpl_op (i := 7) rfl (o_store (cells := [(.int .i64 (((Lg.mk m R s).append b).1.many)), (.slice A104 (((Lg.mk m R s).append b).1.recs.length) c105), (.int .i64 (((Lg.mk m R s).append b).1.synced))]) F128 rfl rfl rfl rfl (F128.get rfl) (F128.get rfl) b123 inf29 rfl (by simp [Value.oneCell']) ?_)
   intro w129 b130 hg131; have z132 := hg131.size
   refine qv 8 (.int .i64 (((Lg.mk m R s).append b).2)) F128 rfl (rn_assign (F128.get rfl)) fun _ F134 => ?_; clear F128
   refine wpList_nil ?_
   refine hK96 _ _ ?_
   clear hK96
   have F135 := ((((((((((F134.nil.c F134 8 rfl).c F134 7 rfl).c F134 6 rfl).c F134 5 rfl).c F134 20 rfl).c F134 10 rfl).c F134 4 rfl).c F134 2 rfl).c F134 1 rfl).c F134 0 rfl)
   clear F134
   refine wp_seq_k (fun K136 hK136 => ?_)
   have hx138 : ∃ W, w129.drew = W ∧ Ext w129 W := ⟨_, rfl, (Ext.refl _).drew⟩
   obtain ⟨w137, e139, hx138⟩ := hx138
   have z140 := hx138.size
   refine any_start (fun W => Ext w137 W ∧ Blk W g2 29 [(.int .i64 m), (.slice A R.length c), (.int .i64 s)] ∧ Blk W g81 29 [(.int .i64 (((Lg.mk m R s).append b).1.many)), (.slice A64 (((Lg.mk m R s).append b).1.recs.length) c65), (.int .i64 (((Lg.mk m R s).append b).1.synced))] ∧ Blk W g121 29 [(.int .i64 (((Lg.mk m R s).append b).1.many)), (.slice A104 (((Lg.mk m R s).append b).1.recs.length) c105), (.int .i64 (((Lg.mk m R s).append b).1.synced))]) (fun i => false) 23 #[false, false, false, false, false, false, false, false, false, false, false, false, false, false, false, false, false, false, false, false, false, false, false] rfl rfl rfl ?_
   rw [e139]; clear e139
   have b142 := ((((b97.ext hx108).ext hx124).grownN hg131 (by omega)).ext hx138)
   have b143 := ((((b90.ext hx108).ext hx124).grownN hg131 (by omega)).ext hx138)
   have b144 := (b130.ext hx138)
   have hS141 : Ext w137 w137 ∧ Blk w137 g2 29 [(.int .i64 m), (.slice A R.length c), (.int .i64 s)] ∧ Blk w137 g81 29 [(.int .i64 (((Lg.mk m R s).append b).1.many)), (.slice A64 (((Lg.mk m R s).append b).1.recs.length) c65), (.int .i64 (((Lg.mk m R s).append b).1.synced))] ∧ Blk w137 g121 29 [(.int .i64 (((Lg.mk m R s).append b).1.many)), (.slice A104 (((Lg.mk m R s).append b).1.recs.length) c105), (.int .i64 (((Lg.mk m R s).append b).1.synced))] := ⟨(Ext.refl w137), b142, b143, b144⟩
   refine qs 0 (.agg #[(.int .i64 m), (.slice A R.length c), (.int .i64 s)]) F135 rfl rfl hS141 (fun W hW => (rn_loadBlk (F135.get rfl) hW.2.1 Try.underlying29 rfl inf29)) fun _ F146 => ?_; clear F135
   refine qs 2 (.agg #[(.int .i64 m), (.slice A R.length c), (.int .i64 s)]) F146 rfl rfl hS141 (fun W hW => (rn_loadBlk (F146.get rfl) hW.2.1 Try.underlying29 rfl inf29)) fun _ F148 => ?_; clear F146
   refine any_one (i := 1) (by decide +kernel) rfl ?_
   have d149 := (hnc.pres (((((((((((Pres.refl w).ext hx5).ext hx15).ext hx34).ext hx68).ext hx84).grownN hg91 (fun h => by simp only [Clip] at h; omega)).ext hx108).ext hx124).grownN hg131 (fun h => by simp only [Clip] at h; omega)).ext hx138))
   refine o_call F148 rfl rfl rfl rfl (rn_call (args1 (F148.get rfl)) rfl (by kernel_rfl)) (chk_at (v := (.slice A R.length c)) m R s _ d149 hb) ?_
   rintro _ w150 ⟨rfl, hx151⟩
   refine ⟨_, rfl, ?_⟩; intro a152 F153; clear F148; have z154 := hx151.size
   have b155 := (b142.ext hx151)
   have b156 := (b143.ext hx151)
   have b157 := (b144.ext hx151)
   refine ⟨fun _ _ => ⟨((Ext.refl w137).trans hx151), b155, b156, b157⟩, ?_⟩
   refine any_one (i := 3) (by decide +kernel) rfl ?_
   have d158 := (hnc.pres ((((((((((((Pres.refl w).ext hx5).ext hx15).ext hx34).ext hx68).ext hx84).grownN hg91 (fun h => by simp only [Clip] at h; omega)).ext hx108).ext hx124).grownN hg131 (fun h => by simp only [Clip] at h; omega)).ext hx138).ext hx151))
   refine o_call F153 rfl rfl rfl rfl (rn_call (args1 (F153.get rfl)) rfl (by kernel_rfl)) (rchk_at (v := (.slice A R.length c)) m R s _ d158 hb) ?_
   rintro _ w159 ⟨rfl, hx160⟩
   refine ⟨_, rfl, ?_⟩; intro a161 F162; clear F153; have z163 := hx160.size
   have b164 := (b155.ext hx160)
   have b165 := (b156.ext hx160)
   have b166 := (b157.ext hx160)
   refine ⟨fun _ _ => ⟨(((Ext.refl w137).trans hx151).trans hx160), b164, b165, b166⟩, ?_⟩
   refine qp 4 (.bool (decide (((Lg.mk m R s).check : Int) = ((Lg.mk m R s).check : Int)))) F162 rfl rfl (fun W => (rn_eql (F162.get rfl) (F162.get rfl))) fun _ F168 => ?_; clear F162
   refine qp 5 (.bool (decide (((Lg.mk m R s).check : Int) = ((Lg.mk m R s).check : Int)))) F168 rfl rfl (fun W => (rn_move (F168.get rfl))) fun _ F170 => ?_; clear F168
   have hS172 : Ext w137 w159 ∧ Blk w159 g2 29 [(.int .i64 m), (.slice A R.length c), (.int .i64 s)] ∧ Blk w159 g81 29 [(.int .i64 (((Lg.mk m R s).append b).1.many)), (.slice A64 (((Lg.mk m R s).append b).1.recs.length) c65), (.int .i64 (((Lg.mk m R s).append b).1.synced))] ∧ Blk w159 g121 29 [(.int .i64 (((Lg.mk m R s).append b).1.many)), (.slice A104 (((Lg.mk m R s).append b).1.recs.length) c105), (.int .i64 (((Lg.mk m R s).append b).1.synced))] := ⟨(((Ext.refl w137).trans hx151).trans hx160), b164, b165, b166⟩
   refine qs 6 (.agg #[(.int .i64 m), (.slice A R.length c), (.int .i64 s)]) F170 rfl (wanted_guard rfl rfl rfl F170 rfl ((decide_eq_true rfl) : decide (((Lg.mk m R s).check : Int) = ((Lg.mk m R s).check : Int)) = true) rfl) hS172 (fun W hW => (rn_loadBlk (F170.get rfl) hW.2.1 Try.underlying29 rfl inf29)) fun _ F174 => ?_; clear F170
   refine qs 8 (.agg #[(.int .i64 m), (.slice A R.length c), (.int .i64 s)]) F174 rfl (wanted_guard rfl rfl rfl F174 rfl ((decide_eq_true rfl) : decide (((Lg.mk m R s).check : Int) = ((Lg.mk m R s).check : Int)) = true) rfl) hS172 (fun W hW => (rn_loadBlk (F174.get rfl) hW.2.1 Try.underlying29 rfl inf29)) fun _ F176 => ?_; clear F174
   refine any_one (i := 7) (by decide +kernel) rfl ?_
   have d177 := (hnc.pres (((((((((((((Pres.refl w).ext hx5).ext hx15).ext hx34).ext hx68).ext hx84).grownN hg91 (fun h => by simp only [Clip] at h; omega)).ext hx108).ext hx124).grownN hg131 (fun h => by simp only [Clip] at h; omega)).ext hx138).ext hx151).ext hx160))
   refine o_call F176 rfl (wanted_guard rfl rfl rfl F176 rfl ((decide_eq_true rfl) : decide (((Lg.mk m R s).check : Int) = ((Lg.mk m R s).check : Int)) = true) rfl) rfl rfl (rn_call (args1 (F176.get rfl)) rfl (by kernel_rfl)) (room_at (v := (.slice A R.length c)) m R s _ d177 hb) ?_
   rintro _ w178 ⟨rfl, hx179⟩
   refine ⟨_, rfl, ?_⟩; intro a180 F181; clear F176; have z182 := hx179.size
   have b183 := (b164.ext hx179)
   have b184 := (b165.ext hx179)
   have b185 := (b166.ext hx179)
   refine ⟨fun _ _ => ⟨((((Ext.refl w137).trans hx151).trans hx160).trans hx179), b183, b184, b185⟩, ?_⟩
   refine any_one (i := 9) (by decide +kernel) rfl ?_
   have d186 := (hnc.pres ((((((((((((((Pres.refl w).ext hx5).ext hx15).ext hx34).ext hx68).ext hx84).grownN hg91 (fun h => by simp only [Clip] at h; omega)).ext hx108).ext hx124).grownN hg131 (fun h => by simp only [Clip] at h; omega)).ext hx138).ext hx151).ext hx160).ext hx179))
   refine o_call F181 rfl (wanted_guard rfl rfl rfl F181 rfl ((decide_eq_true rfl) : decide (((Lg.mk m R s).check : Int) = ((Lg.mk m R s).check : Int)) = true) rfl) rfl rfl (rn_call (args1 (F181.get rfl)) rfl (by kernel_rfl)) (rroom_at (v := (.slice A R.length c)) m R s _ d186 hb) ?_
   rintro _ w187 ⟨rfl, hx188⟩
   refine ⟨_, rfl, ?_⟩; intro a189 F190; clear F181; have z191 := hx188.size
   have b192 := (b183.ext hx188)
   have b193 := (b184.ext hx188)
   have b194 := (b185.ext hx188)
   refine ⟨fun _ _ => ⟨(((((Ext.refl w137).trans hx151).trans hx160).trans hx179).trans hx188), b192, b193, b194⟩, ?_⟩
   refine qp 10 (.bool (decide (((Lg.mk m R s).room : Int) = ((Lg.mk m R s).room : Int)))) F190 rfl (wanted_guard rfl rfl rfl F190 rfl ((decide_eq_true rfl) : decide (((Lg.mk m R s).check : Int) = ((Lg.mk m R s).check : Int)) = true) rfl) (fun W => (rn_eql (F190.get rfl) (F190.get rfl))) fun _ F196 => ?_; clear F190
   refine qp 11 (.bool (decide (((Lg.mk m R s).room : Int) = ((Lg.mk m R s).room : Int)))) F196 rfl rfl (fun W => (rn_pickT (c_true F196 rfl ((decide_eq_true rfl) : decide (((Lg.mk m R s).check : Int) = ((Lg.mk m R s).check : Int)) = true)) (F196.get rfl))) fun _ F198 => ?_; clear F196
   refine qp 12 (.bool (decide (((Lg.mk m R s).room : Int) = ((Lg.mk m R s).room : Int)))) F198 rfl rfl (fun W => (rn_move (F198.get rfl))) fun _ F200 => ?_; clear F198
   have hS202 : Ext w137 w187 ∧ Blk w187 g2 29 [(.int .i64 m), (.slice A R.length c), (.int .i64 s)] ∧ Blk w187 g81 29 [(.int .i64 (((Lg.mk m R s).append b).1.many)), (.slice A64 (((Lg.mk m R s).append b).1.recs.length) c65), (.int .i64 (((Lg.mk m R s).append b).1.synced))] ∧ Blk w187 g121 29 [(.int .i64 (((Lg.mk m R s).append b).1.many)), (.slice A104 (((Lg.mk m R s).append b).1.recs.length) c105), (.int .i64 (((Lg.mk m R s).append b).1.synced))] := ⟨(((((Ext.refl w137).trans hx151).trans hx160).trans hx179).trans hx188), b192, b193, b194⟩
   refine qs 13 (.agg #[(.int .i64 (((Lg.mk m R s).append b).1.many)), (.slice A64 (((Lg.mk m R s).append b).1.recs.length) c65), (.int .i64 (((Lg.mk m R s).append b).1.synced))]) F200 rfl (wanted_guard rfl rfl rfl F200 rfl ((decide_eq_true rfl) : decide (((Lg.mk m R s).room : Int) = ((Lg.mk m R s).room : Int)) = true) rfl) hS202 (fun W hW => (rn_loadBlk (F200.get rfl) hW.2.2.1 Try.underlying29 rfl inf29)) fun _ F204 => ?_; clear F200
   refine qs 14 (.agg #[(.int .i64 (((Lg.mk m R s).append b).1.many)), (.slice A104 (((Lg.mk m R s).append b).1.recs.length) c105), (.int .i64 (((Lg.mk m R s).append b).1.synced))]) F204 rfl (wanted_guard rfl rfl rfl F204 rfl ((decide_eq_true rfl) : decide (((Lg.mk m R s).room : Int) = ((Lg.mk m R s).room : Int)) = true) rfl) hS202 (fun W hW => (rn_loadBlk (F204.get rfl) hW.2.2.2 Try.underlying29 rfl inf29)) fun _ F206 => ?_; clear F204
   refine any_one (i := 15) (by decide +kernel) rfl ?_
   have d207 := (hf72.pres (((((((((((Pres.refl w67).ext hx84).grownN hg91 (fun h => by simp only [Clip] at h; omega)).ext hx108).ext hx124).grownN hg131 (fun h => by simp only [Clip] at h; omega)).ext hx138).ext hx151).ext hx160).ext hx179).ext hx188))
   have d208 := (hf112.pres ((((((((Pres.refl w107).ext hx124).grownN hg131 (fun h => by simp only [Clip] at h; omega)).ext hx138).ext hx151).ext hx160).ext hx179).ext hx188))
   refine o_call F206 rfl (wanted_guard rfl rfl rfl F206 rfl ((decide_eq_true rfl) : decide (((Lg.mk m R s).room : Int) = ((Lg.mk m R s).room : Int)) = true) rfl) rfl rfl (rn_call (args2 (F206.get rfl) (F206.get rfl)) rfl (by kernel_rfl)) (same9_at (v := (.slice A64 (((Lg.mk m R s).append b).1.recs.length) c65)) (u := (.slice A104 (((Lg.mk m R s).append b).1.recs.length) c105)) (((Lg.mk m R s).append b).1.many) (((Lg.mk m R s).append b).1.recs) (((Lg.mk m R s).append b).1.synced) (((Lg.mk m R s).append b).1.many) (((Lg.mk m R s).append b).1.recs) (((Lg.mk m R s).append b).1.synced) _ d207 d208) ?_
   rintro _ w209 ⟨rfl, hx210⟩
   refine ⟨_, rfl, ?_⟩; intro a211 F212; clear F206; have z213 := hx210.size
   have b214 := (b192.ext hx210)
   have b215 := (b193.ext hx210)
   have b216 := (b194.ext hx210)
   refine ⟨fun _ _ => ⟨((((((Ext.refl w137).trans hx151).trans hx160).trans hx179).trans hx188).trans hx210), b214, b215, b216⟩, ?_⟩
   refine qp 16 (.bool ((Lg.mk (((Lg.mk m R s).append b).1.many) (((Lg.mk m R s).append b).1.recs) (((Lg.mk m R s).append b).1.synced)).same (Lg.mk (((Lg.mk m R s).append b).1.many) (((Lg.mk m R s).append b).1.recs) (((Lg.mk m R s).append b).1.synced)))) F212 rfl rfl (fun W => (rn_pickT (c_true F212 rfl ((decide_eq_true rfl) : decide (((Lg.mk m R s).room : Int) = ((Lg.mk m R s).room : Int)) = true)) (F212.get rfl))) fun _ F218 => ?_; clear F212
   refine qp 17 (.bool ((Lg.mk (((Lg.mk m R s).append b).1.many) (((Lg.mk m R s).append b).1.recs) (((Lg.mk m R s).append b).1.synced)).same (Lg.mk (((Lg.mk m R s).append b).1.many) (((Lg.mk m R s).append b).1.recs) (((Lg.mk m R s).append b).1.synced)))) F218 rfl rfl (fun W => (rn_move (F218.get rfl))) fun _ F220 => ?_; clear F218
   refine qp 18 (.int .i64 (((Lg.mk m R s).append b).2)) F220 rfl (wanted_guard rfl rfl rfl F220 rfl ((same9_self _) : (Lg.mk (((Lg.mk m R s).append b).1.many) (((Lg.mk m R s).append b).1.recs) (((Lg.mk m R s).append b).1.synced)).same (Lg.mk (((Lg.mk m R s).append b).1.many) (((Lg.mk m R s).append b).1.recs) (((Lg.mk m R s).append b).1.synced)) = true) rfl) (fun W => (rn_move (F220.get rfl))) fun _ F223 => ?_; clear F220
   refine qp 19 (.int .i64 (((Lg.mk m R s).append b).2)) F223 rfl (wanted_guard rfl rfl rfl F223 rfl ((same9_self _) : (Lg.mk (((Lg.mk m R s).append b).1.many) (((Lg.mk m R s).append b).1.recs) (((Lg.mk m R s).append b).1.synced)).same (Lg.mk (((Lg.mk m R s).append b).1.many) (((Lg.mk m R s).append b).1.recs) (((Lg.mk m R s).append b).1.synced)) = true) rfl) (fun W => (rn_move (F223.get rfl))) fun _ F225 => ?_; clear F223
   refine qp 20 (.bool (decide ((((Lg.mk m R s).append b).2 : Int) = (((Lg.mk m R s).append b).2 : Int)))) F225 rfl (wanted_guard rfl rfl rfl F225 rfl ((same9_self _) : (Lg.mk (((Lg.mk m R s).append b).1.many) (((Lg.mk m R s).append b).1.recs) (((Lg.mk m R s).append b).1.synced)).same (Lg.mk (((Lg.mk m R s).append b).1.many) (((Lg.mk m R s).append b).1.recs) (((Lg.mk m R s).append b).1.synced)) = true) rfl) (fun W => (rn_eql (F225.get rfl) (F225.get rfl))) fun _ F227 => ?_; clear F225
   refine qp 21 (.bool (decide ((((Lg.mk m R s).append b).2 : Int) = (((Lg.mk m R s).append b).2 : Int)))) F227 rfl rfl (fun W => (rn_pickT (c_true F227 rfl ((same9_self _) : (Lg.mk (((Lg.mk m R s).append b).1.many) (((Lg.mk m R s).append b).1.recs) (((Lg.mk m R s).append b).1.synced)).same (Lg.mk (((Lg.mk m R s).append b).1.many) (((Lg.mk m R s).append b).1.recs) (((Lg.mk m R s).append b).1.synced)) = true)) (F227.get rfl))) fun _ F229 => ?_; clear F227
   refine qp 22 (.bool (decide ((((Lg.mk m R s).append b).2 : Int) = (((Lg.mk m R s).append b).2 : Int)))) F229 rfl rfl (fun W => (rn_assign (F229.get rfl))) fun _ F231 => ?_; clear F229
   refine any_nil (by decide +kernel) ?_
   refine hK136 _ _ ?_
   clear hK136
   have F232 := ((((((((((F231.nil.c F231 8 rfl).c F231 7 rfl).c F231 6 rfl).c F231 5 rfl).c F231 20 rfl).c F231 10 rfl).c F231 4 rfl).c F231 2 rfl).c F231 1 rfl).c F231 0 rfl)
   clear F231
   refine wp_ret ?_
   refine ret1 F232 rfl rfl ?_
   exact ⟨congrArg (fun b => Ending.returned (.bool b)) ((decide_eq_true rfl) : decide ((((Lg.mk m R s).append b).2 : Int) = (((Lg.mk m R s).append b).2 : Int)) = true), ((((((((((((((((Ext.refl w).trans hx5).trans hx15).trans hx34).trans hx68).trans hx84).grownN hg91 (by omega)).trans hx108).trans hx124).grownN hg131 (by omega)).trans hx138).trans hx151).trans hx160).trans hx179).trans hx188).trans hx210)⟩
 ·skip
  refine qu 6 F41 (not_f hc42) fun _ F234 => ?_; clear F41
  refine qu 7 F234 (not_f hc42) fun _ F236 => ?_; clear F234
  refine qu 8 F236 (not_f hc42) fun _ F238 => ?_; clear F236
  refine qv 9 (.bool true) F238 rfl (rn_pickT (c_true F238 rfl (not_f hc42)) rfl) fun _ F240 => ?_; clear F238
  refine wpList_nil ?_
  refine hK22 _ _ ?_
  clear hK22
  have F241 := ((((((F240.nil.c F240 20 rfl).c F240 10 rfl).c F240 4 rfl).c F240 2 rfl).c F240 1 rfl).c F240 0 rfl)
  clear F240
  refine wp_cond_true (c_true F241 rfl rfl) ?_
  refine wp_seq_k (fun K242 hK242 => ?_)
  refine wp_region_lit ?_
  refine qv 0 (.bool true) F241 rfl (rn_assign rfl) fun _ F244 => ?_; clear F241
  refine wpList_nil ?_
  refine hK242 _ _ ?_
  clear hK242
  refine wp_ret ?_
  refine ret_then ?_
  refine ret1 F244 rfl rfl ?_
  exact ⟨congrArg (fun b => Ending.returned (.bool b)) (rfl : true = true), ((((Ext.refl w).trans hx5).trans hx15).trans hx34)⟩

end Go.Proofs.Ytfmhnplkpohogaa
