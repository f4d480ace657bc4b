/- The law JournalRoom, walked. -/
import Derived.Test.YtfmhnplkpohogaaProg
import Derived.Test.YtfmhnplkpohogaaBvnH
import Derived.KernelRfl
import Derived.Test.YtfmhnplkpohogaaBvnA
set_option linter.unusedVariables false
set_option linter.unusedSimpArgs false
namespace Go.Proofs.Ytfmhnplkpohogaa
open Go.RowKit

variable {S S' : Nat → Prop}

set_option maxRecDepth 100000 in
set_option maxHeartbeats 4000000 in
theorem jroom_any (m : Int) (A : Option Addr) (c : Nat) (R : List (List UInt8)) (s : Int) (B : Option Addr) (e : Nat) (b : List UInt8) (w : World) (hn : RBss S w (.slice A R.length c) R) (hb : ∀ x ∈ R, x.length ≤ 140737488355328) (hu : usedL R < 9223372036854775808) (hR : R.length ≤ 5864062014804) (hf : Fl S w 1 (.slice B b.length e) b.length (byteVals b)) (hbb : b.length ≤ 140737488355328) :
  Calls Try.prog 6 #[.agg #[.int .i64 m, .slice A R.length c, .int .i64 s], .slice B b.length e] w (RB w true) := by
 have hnc := RBss.clip hn
 obtain ⟨-, hcR1, hcR2⟩ := RBss.at hn
 have hfc : Fl (Clip S w) w 1 (.slice B b.length e) b.length (byteVals b) := hf.clip
 have hfcc := (Fl.cel hfc).2.1
 refine calls_enter (l := [(.agg #[(.int .i64 m), (.slice A R.length c), (.int .i64 s)]), (.slice B b.length e)]) Try.func6 rfl rfl rfl (fun aA hF => ?_)
 refine wp_seq_k (fun K1 hK1 => ?_)
 refine wp_region_lit ?_
 refine wpl_op (i := 0) rfl (o_new (fun g => (.pointer (some ⟨g, 0, none⟩))) [(.int .i64 m), (.slice A R.length c), (.int .i64 s)] 29 hF rfl rfl rfl rfl (rn_box (hF.get rfl) (by kernel_rfl)) ?_)
 intro g2 w3 a8 F9 z6 z7 b4 hx5; clear hF
 refine qv 1 (.bool false) F9 rfl (rn_assign rfl) fun _ F11 => ?_; clear F9
 refine wpList_nil ?_
 refine hK1 _ _ ?_
 clear hK1
 refine wp_seq_k (fun K12 hK12 => ?_)
 refine wp_seq_k (fun K13 hK13 => ?_)
 refine wp_region_lit ?_
 refine wpl_op (i := 0) rfl (o_call F11 rfl rfl rfl rfl (rn_call (args0 ) rfl (by kernel_rfl)) (sane9_any _) ?_)
 rintro _ w14 ⟨rfl, hx15⟩
 refine ⟨_, rfl, ?_⟩; intro a16 F17; clear F11; have z18 := hx15.size
 refine qv 1 (.bool false) F17 rfl (rn_not' (F17.get rfl) rfl) fun _ F20 => ?_; clear F17
 refine wpList_nil ?_
 refine hK13 _ _ ?_
 clear hK13
 refine wp_cond_false (c_false F20 rfl rfl) ?_
 refine wp_skip ?_
 refine hK12 _ _ ?_
 clear hK12
 refine wp_seq_k (fun K21 hK21 => ?_)
 refine wp_seq_k (fun K22 hK22 => ?_)
 refine wp_region_lit ?_
 refine qv 0 (.agg #[(.slice none 0 0), (.slice none 0 0), (.int .i64 0), (.bool false)]) F20 rfl (rn_build (parts0 ) (by kernel_rfl)) fun _ F24 => ?_; clear F20
 refine qv 1 (.pointer (some ⟨g2, 1, none⟩)) F24 rfl (rn_field Try.underlying29 rfl (by kernel_rfl) (F24.get rfl) rfl) fun _ F26 => ?_; clear F24
 have b27 := (b4.ext hx15)
 refine qv 2 (.slice A R.length c) F26 rfl (rn_load (isAgg_no Try.underlying22 rfl) (F26.get rfl) (b27.rule.1 1)) fun _ F29 => ?_; clear F26
 have d30 := ((hnc.ext hx5).ext hx15)
 refine wpl_op (i := 3) rfl (o_call F29 rfl rfl rfl rfl (rn_call (args2 (F29.get rfl) (F29.get rfl)) rfl (by kernel_rfl)) (few9_at (v := (.slice A R.length c)) none 0 0 none 0 0 0 false R _ d30 hb) ?_)
 rintro _ w33 ⟨bq31, rfl, hfew32, hx34⟩
 refine ⟨_, rfl, ?_⟩; intro a35 F36; clear F29; have z37 := hx34.size
 refine qv 4 (.bool (!bq31)) F36 rfl (rn_not' (F36.get rfl) rfl) fun _ F39 => ?_; clear F36
 refine qv 5 (.bool (!bq31)) F39 rfl (rn_move (F39.get rfl)) fun _ F41 => ?_; clear F39
 rcases Bool.eq_false_or_eq_true bq31 with hc42 | hc42
 ·skip
  refine qg 6 (.slice B b.length e) F41 (not_t hc42) (rn_move (F41.get rfl)) fun _ F44 => ?_; clear F41
  refine qg 7 (.int .i64 (b.length : Nat)) F44 (not_t hc42) (rn_len_slice Try.underlying35 (F44.get rfl)) fun _ F46 => ?_; clear F44
  refine qg 8 (.bool (decide ((70000 : Int) < ((b.length : Nat) : Int)))) F46 (not_t hc42) (rn_gtr (F46.get rfl) rfl) fun _ F48 => ?_; clear F46
  refine qv 9 (.bool (decide ((70000 : Int) < ((b.length : Nat) : Int)))) F48 rfl (rn_pickF (c_false F48 rfl (not_t hc42)) (F48.get rfl)) fun _ F50 => ?_; clear F48
  refine qv 10 (.bool (decide ((70000 : Int) < ((b.length : Nat) : Int)))) F50 rfl (rn_move (F50.get rfl)) fun _ F52 => ?_; clear F50
  by_cases hc53 : (70000 : Int) < ((b.length : Nat) : Int)
  ·skip
   refine qu 11 F52 (decide_eq_true hc53) fun _ F55 => ?_; clear F52
   refine qu 12 F55 (decide_eq_true hc53) fun _ F57 => ?_; clear F55
   refine qu 13 F57 (decide_eq_true hc53) fun _ F59 => ?_; clear F57
   refine qv 14 (.bool true) F59 rfl (rn_pickT (c_true F59 rfl (decide_eq_true hc53)) rfl) fun _ F61 => ?_; clear F59
   refine wpList_nil ?_
   refine hK22 _ _ ?_
   clear hK22
   have F62 := ((((((F61.nil.c F61 25 rfl).c F61 10 rfl).c F61 4 rfl).c F61 2 rfl).c F61 1 rfl).c F61 0 rfl)
   clear F61
   refine wp_cond_true (c_true F62 rfl rfl) ?_
   refine wp_seq_k (fun K63 hK63 => ?_)
   refine wp_region_lit ?_
   refine qv 0 (.bool true) F62 rfl (rn_assign rfl) fun _ F65 => ?_; clear F62
   refine wpList_nil ?_
   refine hK63 _ _ ?_
   clear hK63
   refine wp_ret ?_
   refine ret_then ?_
   refine ret1 F65 rfl rfl ?_
   exact ⟨congrArg (fun b => Ending.returned (.bool b)) (rfl : true = true), ((((Ext.refl w).trans hx5).trans hx15).trans hx34)⟩
  ·skip
   have b66 := (b27.ext hx34)
   refine qg 11 (.agg #[(.int .i64 m), (.slice A R.length c), (.int .i64 s)]) F52 (decide_eq_false hc53) (rn_loadBlk (F52.get rfl) b66 Try.underlying29 rfl inf29) fun _ F68 => ?_; clear F52
   have d69 := (((hnc.ext hx5).ext hx15).ext hx34)
   refine wpl_op (i := 12) rfl (o_call F68 rfl (wanted_guard rfl rfl rfl F68 rfl (decide_eq_false hc53) rfl) rfl rfl (rn_call (args1 (F68.get rfl)) rfl (by kernel_rfl)) (chk_at (v := (.slice A R.length c)) m R s _ d69 hb) ?_)
   rintro _ w70 ⟨rfl, hx71⟩
   refine ⟨_, rfl, ?_⟩; intro a72 F73; clear F68; have z74 := hx71.size
   refine qg 13 (.bool (decide (((Lg.mk m R s).check : Int) ≠ (0 : Int)))) F73 (decide_eq_false hc53) (rn_neq (F73.get rfl) rfl) fun _ F76 => ?_; clear F73
   refine qv 14 (.bool (decide (((Lg.mk m R s).check : Int) ≠ (0 : Int)))) F76 rfl (rn_pickF (c_false F76 rfl (decide_eq_false hc53)) (F76.get rfl)) fun _ F78 => ?_; clear F76
   refine wpList_nil ?_
   refine hK22 _ _ ?_
   clear hK22
   have F79 := ((((((F78.nil.c F78 25 rfl).c F78 10 rfl).c F78 4 rfl).c F78 2 rfl).c F78 1 rfl).c F78 0 rfl)
   clear F78
   by_cases hc80 : ((Lg.mk m R s).check : Int) ≠ (0 : Int)
   ·skip
    refine wp_cond_true (c_true F79 rfl (decide_eq_true hc80)) ?_
    refine wp_seq_k (fun K81 hK81 => ?_)
    refine wp_region_lit ?_
    refine qv 0 (.bool true) F79 rfl (rn_assign rfl) fun _ F83 => ?_; clear F79
    refine wpList_nil ?_
    refine hK81 _ _ ?_
    clear hK81
    refine wp_ret ?_
    refine ret_then ?_
    refine ret1 F83 rfl rfl ?_
    exact ⟨congrArg (fun b => Ending.returned (.bool b)) (rfl : true = true), (((((Ext.refl w).trans hx5).trans hx15).trans hx34).trans hx71)⟩
   ·skip
    have hlc : (Lg.mk m R s).check = 0 := by omega
    obtain ⟨hle, hl1, hl2, hl3, hl4, hl5⟩ := left_eq hlc hu
    refine wp_cond_false (c_false F79 rfl (decide_eq_false hc80)) ?_
    refine wp_skip ?_
    refine hK21 _ _ ?_
    clear hK21
    refine wp_seq_k (fun K84 hK84 => ?_)
    by_cases hc85 : ((secs b.length : Nat) : Int) ≤ m - ((usedL R : Nat) : Int)
    ·skip
     have hfit := hc85; have hsp := secs_pos b.length; have hsec : secs b.length = max 1 ((b.length + 111) / 112) := rfl
     obtain ⟨hck2, hus2⟩ := check_app hlc hu hfit; have hln2 : (R ++ [b]).length = R.length + 1 := by simp
     have hbR2 : ∀ x ∈ R ++ [b], x.length ≤ 140737488355328 := fun x hx => by rcases List.mem_append.1 hx with h | h; exact hb x h; rw [List.mem_singleton.1 h]; omega
     refine wp_region_lit ?_
     have b86 := (b66.ext hx71)
     refine qv 0 (.agg #[(.int .i64 m), (.slice A R.length c), (.int .i64 s)]) F79 rfl (rn_loadBlk (F79.get rfl) b86 Try.underlying29 rfl inf29) fun _ F88 => ?_; clear F79
     refine qv 1 (.slice B b.length e) F88 rfl (rn_move (F88.get rfl)) fun _ F90 => ?_; clear F88
     have d91 := ((((hnc.ext hx5).ext hx15).ext hx34).ext hx71)
     have d92 := ((((hfc.ext hx5).ext hx15).ext hx34).ext hx71)
     refine wpl_op (i := 2) rfl (o_call F90 rfl rfl rfl rfl (rn_call (args2 (F90.get rfl) (F90.get rfl)) rfl (by kernel_rfl)) (app_conv (app_at (S := (fun b => (Clip S w) b ∨ (Clip S w) b)) (v := (.slice A R.length c)) (u := (.slice B b.length e)) (n := b.length) m R s b _ (RBss.sub d91 fun b hb => .inl hb) hb (by omega) (Fl.sub d92 fun b hb => .inr hb) (by omega)) (app_fit hlc hu hfit)) ?_)
     rintro _ w96 ⟨A93, c94, rfl, hb95, hx97⟩
     refine ⟨_, rfl, ?_⟩; intro a98 F99; clear F90; have z100 := hx97.size
     have hf101 := RBss.clip hb95
     obtain ⟨-, z102, z103⟩ := RBss.at hb95
     refine qv 3 (.tuple #[(.agg #[(.int .i64 m), (.slice A93 ((R ++ [b]).length) c94), (.int .i64 s)]), (.int .i64 0)]) F99 rfl (rn_move (F99.get rfl)) fun _ F105 => ?_; clear F99
     refine qv 4 (.agg #[(.int .i64 m), (.slice A93 ((R ++ [b]).length) c94), (.int .i64 s)]) F105 rfl (rn_extract (F105.get rfl) rfl) fun _ F107 => ?_; clear F105
     refine qv 5 (.int .i64 0) F107 rfl (rn_extract (F107.get rfl) rfl) fun _ F109 => ?_; clear F107
     refine wpl_op (i := 6) rfl (o_new (fun g => (.pointer (some ⟨g, 0, none⟩))) [(.int .i64 0), (.slice none 0 0), (.int .i64 0)] 29 F109 rfl rfl rfl rfl (by kernel_rfl) ?_)
     intro g110 w111 a116 F117 z114 z115 b112 hx113; clear F109
     refine wpl_op (i := 7) rfl (o_store (cells := [(.int .i64 m), (.slice A93 ((R ++ [b]).length) c94), (.int .i64 s)]) F117 rfl rfl rfl rfl (F117.get rfl) (F117.get rfl) b112 inf29 rfl (by simp [Value.oneCell']) ?_)
     intro w118 b119 hg120; have z121 := hg120.size
     refine qv 8 (.int .i64 0) F117 rfl (rn_assign (F117.get rfl)) fun _ F123 => ?_; clear F117
     refine wpList_nil ?_
     refine hK84 _ _ ?_
     clear hK84
     have F124 := ((((((((F123.nil.c F123 6 rfl).c F123 5 rfl).c F123 25 rfl).c F123 10 rfl).c F123 4 rfl).c F123 2 rfl).c F123 1 rfl).c F123 0 rfl)
     clear F123
     refine wp_seq_k (fun K125 hK125 => ?_)
     refine wp_region_lit ?_
     have b126 := (((b86.ext hx97).ext hx113).grownN hg120 (by omega))
     refine qv 0 (.agg #[(.int .i64 m), (.slice A R.length c), (.int .i64 s)]) F124 rfl (rn_loadBlk (F124.get rfl) b126 Try.underlying29 rfl inf29) fun _ F128 => ?_; clear F124
     have d129 := (hnc.pres ((((((((Pres.refl w).ext hx5).ext hx15).ext hx34).ext hx71).ext hx97).ext hx113).grownN hg120 (fun h => by simp only [Clip] at h; omega)))
     have hrm130 := room_at (v := (.slice A R.length c)) m (R) s w118 d129 hb
     rw [room_eq hlc hu] at hrm130
     refine wpl_op (i := 1) rfl (o_call F128 rfl rfl rfl rfl (rn_call (args1 (F128.get rfl)) rfl (by kernel_rfl)) hrm130 ?_)
     rintro _ w131 ⟨rfl, hx132⟩
     refine ⟨_, rfl, ?_⟩; intro a133 F134; clear F128; have z135 := hx132.size
     refine qv 2 (.int .i64 (112 * (m - ((usedL R : Nat) : Int)))) F134 rfl (rn_assign (F134.get rfl)) fun _ F137 => ?_; clear F134
     refine wpList_nil ?_
     refine hK125 _ _ ?_
     clear hK125
     refine wp_seq_k (fun K138 hK138 => ?_)
     refine wp_seq_k (fun K139 hK139 => ?_)
     refine wp_region_lit ?_
     refine qv 0 (.int .i64 0) F137 rfl (rn_move (F137.get rfl)) fun _ F141 => ?_; clear F137
     refine qv 1 (.bool true) F141 rfl (rn_eql' (F141.get rfl) rfl (by decide)) fun _ F143 => ?_; clear F141
     refine qv 2 (.int .i64 (112 * (m - ((usedL R : Nat) : Int)))) F143 rfl (rn_move (F143.get rfl)) fun _ F145 => ?_; clear F143
     refine qv 3 (.bool (decide ((0 : Int) < (112 * (m - ((usedL R : Nat) : Int)) : Int)))) F145 rfl (rn_gtr (F145.get rfl) rfl) fun _ F147 => ?_; clear F145
     refine qv 4 (.bool (decide ((0 : Int) < (112 * (m - ((usedL R : Nat) : Int)) : Int)))) F147 rfl (rn_move (F147.get rfl)) fun _ F149 => ?_; clear F147
     by_cases hc150 : (0 : Int) < (112 * (m - ((usedL R : Nat) : Int)) : Int)
     ·skip
      refine qg 5 (.slice B b.length e) F149 (decide_eq_true hc150) (rn_move (F149.get rfl)) fun _ F152 => ?_; clear F149
      refine qg 6 (.int .i64 (b.length : Nat)) F152 (decide_eq_true hc150) (rn_len_slice Try.underlying35 (F152.get rfl)) fun _ F154 => ?_; clear F152
      refine qg 7 (.int .i64 (112 * (m - ((usedL R : Nat) : Int)))) F154 (decide_eq_true hc150) (rn_move (F154.get rfl)) fun _ F156 => ?_; clear F154
      refine qg 8 (.bool (decide (((b.length : Nat) : Int) ≤ (112 * (m - ((usedL R : Nat) : Int)) : Int)))) F156 (decide_eq_true hc150) (rn_leq (F156.get rfl) (F156.get rfl)) fun _ F158 => ?_; clear F156
      refine qv 9 (.bool (decide (((b.length : Nat) : Int) ≤ (112 * (m - ((usedL R : Nat) : Int)) : Int)))) F158 rfl (rn_pickT (c_true F158 rfl (decide_eq_true hc150)) (F158.get rfl)) fun _ F160 => ?_; clear F158
      by_cases hc161 : ((b.length : Nat) : Int) ≤ (112 * (m - ((usedL R : Nat) : Int)) : Int)
      ·skip
       refine qv 10 (.bool false) F160 rfl (rn_neB Try.underlying4 (F160.get rfl) (F160.get rfl) (show _ = true from rfl) (show _ = true from (decide_eq_true hc161)) rfl) fun _ F163 => ?_; clear F160
       refine wpList_nil ?_
       refine hK139 _ _ ?_
       clear hK139
       have F164 := ((((((((((F163.nil.c F163 44 rfl).c F163 7 rfl).c F163 6 rfl).c F163 5 rfl).c F163 25 rfl).c F163 10 rfl).c F163 4 rfl).c F163 2 rfl).c F163 1 rfl).c F163 0 rfl)
       clear F163
       refine wp_cond_false (c_false F164 rfl rfl) ?_
       refine wp_skip ?_
       refine hK138 _ _ ?_
       clear hK138
       refine wp_seq_k (fun K165 hK165 => ?_)
       refine wp_seq_k (fun K166 hK166 => ?_)
       refine wp_region_lit ?_
       refine qv 0 (.int .i64 0) F164 rfl (rn_move (F164.get rfl)) fun _ F168 => ?_; clear F164
       refine qv 1 (.bool false) F168 rfl (rn_neq' (F168.get rfl) rfl (by decide)) fun _ F170 => ?_; clear F168
       refine wpList_nil ?_
       refine hK166 _ _ ?_
       clear hK166
       refine wp_cond_false (c_false F170 rfl rfl) ?_
       refine wp_skip ?_
       refine hK165 _ _ ?_
       clear hK165
       refine wp_seq_k (fun K171 hK171 => ?_)
       refine wp_region_lit ?_
       refine qv 0 (.pointer (some ⟨g2, 1, none⟩)) F170 rfl (rn_field Try.underlying29 rfl (by kernel_rfl) (F170.get rfl) rfl) fun _ F173 => ?_; clear F170
       have b174 := (b126.ext hx132)
       refine qv 1 (.slice A R.length c) F173 rfl (rn_load (isAgg_no Try.underlying22 rfl) (F173.get rfl) (b174.rule.1 1)) fun _ F176 => ?_; clear F173
       refine qv 2 (.int .i64 (R.length : Nat)) F176 rfl (rn_len_slice Try.underlying22 (F176.get rfl)) fun _ F178 => ?_; clear F176
       refine qv 3 (.int .i64 (R.length : Nat)) F178 rfl (rn_assign (F178.get rfl)) fun _ F180 => ?_; clear F178
       refine wpList_nil ?_
       refine hK171 _ _ ?_
       clear hK171
       have F181 := ((((((((((((F180.nil.c F180 8 rfl).c F180 46 rfl).c F180 44 rfl).c F180 7 rfl).c F180 6 rfl).c F180 5 rfl).c F180 25 rfl).c F180 10 rfl).c F180 4 rfl).c F180 2 rfl).c F180 1 rfl).c F180 0 rfl)
       clear F180
       refine wp_seq_k (fun K182 hK182 => ?_)
       have hx184 : ∃ W, w131.drew = W ∧ Ext w131 W := ⟨_, rfl, (Ext.refl _).drew⟩
       obtain ⟨w183, e185, hx184⟩ := hx184
       have z186 := hx184.size
       refine any_start (fun W => Ext w183 W ∧ Blk W g110 29 [(.int .i64 m), (.slice A93 ((R ++ [b]).length) c94), (.int .i64 s)] ∧ Blk W g2 29 [(.int .i64 m), (.slice A R.length c), (.int .i64 s)]) (fun i => false) 52 #[false, false, false, false, false, false, false, false, false, false, false, false, false, false, false, false, false, false, false, false, false, false, false, false, false, false, false, false, false, false, false, false, false, false, false, false, false, false, false, false, false, false, false, false, false, false, false, false, false, false, false, false] rfl rfl rfl ?_
       rw [e185]; clear e185
       have b188 := ((b119.ext hx132).ext hx184)
       have b189 := (b174.ext hx184)
       have hS187 : Ext w183 w183 ∧ Blk w183 g110 29 [(.int .i64 m), (.slice A93 ((R ++ [b]).length) c94), (.int .i64 s)] ∧ Blk w183 g2 29 [(.int .i64 m), (.slice A R.length c), (.int .i64 s)] := ⟨(Ext.refl w183), b188, b189⟩
       refine qs 0 (.agg #[(.int .i64 m), (.slice A93 ((R ++ [b]).length) c94), (.int .i64 s)]) F181 rfl rfl hS187 (fun W hW => (rn_loadBlk (F181.get rfl) hW.2.1 Try.underlying29 rfl inf29)) fun _ F191 => ?_; clear F181
       refine any_one (i := 1) (by decide +kernel) rfl ?_
       have d192 := (hf101.pres (((((Pres.refl w96).ext hx113).grownN hg120 (fun h => by simp only [Clip] at h; omega)).ext hx132).ext hx184))
       have hck193 := chk_at (v := (.slice A93 ((R ++ [b]).length) c94)) m (R ++ [b]) s w183 d192 hbR2
       rw [hck2] at hck193
       refine o_call F191 rfl rfl rfl rfl (rn_call (args1 (F191.get rfl)) rfl (by kernel_rfl)) hck193 ?_
       rintro _ w194 ⟨rfl, hx195⟩
       refine ⟨_, rfl, ?_⟩; intro a196 F197; clear F191; have z198 := hx195.size
       have b199 := (b188.ext hx195)
       have b200 := (b189.ext hx195)
       refine ⟨fun _ _ => ⟨((Ext.refl w183).trans hx195), b199, b200⟩, ?_⟩
       refine qp 2 (.bool true) F197 rfl rfl (fun W => (rn_eql' (F197.get rfl) rfl (by decide))) fun _ F202 => ?_; clear F197
       refine qp 3 (.bool true) F202 rfl rfl (fun W => (rn_move (F202.get rfl))) fun _ F204 => ?_; clear F202
       refine qp 4 (.pointer (some ⟨g110, 0, none⟩)) F204 rfl (wanted_guard rfl rfl rfl F204 rfl rfl rfl) (fun W => (rn_field Try.underlying29 rfl (by kernel_rfl) (F204.get rfl) rfl)) fun _ F206 => ?_; clear F204
       have hS207 : Ext w183 w194 ∧ Blk w194 g110 29 [(.int .i64 m), (.slice A93 ((R ++ [b]).length) c94), (.int .i64 s)] ∧ Blk w194 g2 29 [(.int .i64 m), (.slice A R.length c), (.int .i64 s)] := ⟨((Ext.refl w183).trans hx195), b199, b200⟩
       refine qs 5 (.int .i64 m) F206 rfl (wanted_guard rfl rfl rfl F206 rfl rfl rfl) hS207 (fun W hW => (rn_load (isAgg_no Try.underlying3 rfl) (F206.get rfl) (hW.2.1.rule.1 0))) fun _ F209 => ?_; clear F206
       refine qp 6 (.pointer (some ⟨g2, 0, none⟩)) F209 rfl (wanted_guard rfl rfl rfl F209 rfl rfl rfl) (fun W => (rn_field Try.underlying29 rfl (by kernel_rfl) (F209.get rfl) rfl)) fun _ F211 => ?_; clear F209
       refine qs 7 (.int .i64 m) F211 rfl (wanted_guard rfl rfl rfl F211 rfl rfl rfl) hS207 (fun W hW => (rn_load (isAgg_no Try.underlying3 rfl) (F211.get rfl) (hW.2.2.rule.1 0))) fun _ F213 => ?_; clear F211
       refine qp 8 (.bool (decide ((m : Int) = (m : Int)))) F213 rfl (wanted_guard rfl rfl rfl F213 rfl rfl rfl) (fun W => (rn_eql (F213.get rfl) (F213.get rfl))) fun _ F215 => ?_; clear F213
       refine qp 9 (.bool (decide ((m : Int) = (m : Int)))) F215 rfl rfl (fun W => (rn_pickT (c_true F215 rfl rfl) (F215.get rfl))) fun _ F217 => ?_; clear F215
       refine qp 10 (.bool (decide ((m : Int) = (m : Int)))) F217 rfl rfl (fun W => (rn_move (F217.get rfl))) fun _ F219 => ?_; clear F217
       refine qp 11 (.pointer (some ⟨g110, 2, none⟩)) F219 rfl (wanted_guard rfl rfl rfl F219 rfl ((decide_eq_true rfl) : decide ((m : Int) = (m : Int)) = true) rfl) (fun W => (rn_field Try.underlying29 rfl (by kernel_rfl) (F219.get rfl) rfl)) fun _ F222 => ?_; clear F219
       refine qs 12 (.int .i64 s) F222 rfl (wanted_guard rfl rfl rfl F222 rfl ((decide_eq_true rfl) : decide ((m : Int) = (m : Int)) = true) rfl) hS207 (fun W hW => (rn_load (isAgg_no Try.underlying3 rfl) (F222.get rfl) (hW.2.1.rule.1 2))) fun _ F224 => ?_; clear F222
       refine qp 13 (.pointer (some ⟨g2, 2, none⟩)) F224 rfl (wanted_guard rfl rfl rfl F224 rfl ((decide_eq_true rfl) : decide ((m : Int) = (m : Int)) = true) rfl) (fun W => (rn_field Try.underlying29 rfl (by kernel_rfl) (F224.get rfl) rfl)) fun _ F226 => ?_; clear F224
       refine qs 14 (.int .i64 s) F226 rfl (wanted_guard rfl rfl rfl F226 rfl ((decide_eq_true rfl) : decide ((m : Int) = (m : Int)) = true) rfl) hS207 (fun W hW => (rn_load (isAgg_no Try.underlying3 rfl) (F226.get rfl) (hW.2.2.rule.1 2))) fun _ F228 => ?_; clear F226
       refine qp 15 (.bool (decide ((s : Int) = (s : Int)))) F228 rfl (wanted_guard rfl rfl rfl F228 rfl ((decide_eq_true rfl) : decide ((m : Int) = (m : Int)) = true) rfl) (fun W => (rn_eql (F228.get rfl) (F228.get rfl))) fun _ F230 => ?_; clear F228
       refine qp 16 (.bool (decide ((s : Int) = (s : Int)))) F230 rfl rfl (fun W => (rn_pickT (c_true F230 rfl ((decide_eq_true rfl) : decide ((m : Int) = (m : Int)) = true)) (F230.get rfl))) fun _ F232 => ?_; clear F230
       refine qp 17 (.bool (decide ((s : Int) = (s : Int)))) F232 rfl rfl (fun W => (rn_move (F232.get rfl))) fun _ F234 => ?_; clear F232
       refine qp 18 (.pointer (some ⟨g110, 1, none⟩)) F234 rfl (wanted_guard rfl rfl rfl F234 rfl ((decide_eq_true rfl) : decide ((s : Int) = (s : Int)) = true) rfl) (fun W => (rn_field Try.underlying29 rfl (by kernel_rfl) (F234.get rfl) rfl)) fun _ F237 => ?_; clear F234
       refine qs 19 (.slice A93 ((R ++ [b]).length) c94) F237 rfl (wanted_guard rfl rfl rfl F237 rfl ((decide_eq_true rfl) : decide ((s : Int) = (s : Int)) = true) rfl) hS207 (fun W hW => (rn_load (isAgg_no Try.underlying22 rfl) (F237.get rfl) (hW.2.1.rule.1 1))) fun _ F239 => ?_; clear F237
       refine qp 20 (.int .i64 ((R ++ [b]).length : Nat)) F239 rfl (wanted_guard rfl rfl rfl F239 rfl ((decide_eq_true rfl) : decide ((s : Int) = (s : Int)) = true) rfl) (fun W => (rn_len_slice Try.underlying22 (F239.get rfl))) fun _ F241 => ?_; clear F239
       refine qp 21 (.int .i64 (R.length : Nat)) F241 rfl (wanted_guard rfl rfl rfl F241 rfl ((decide_eq_true rfl) : decide ((s : Int) = (s : Int)) = true) rfl) (fun W => (rn_move (F241.get rfl))) fun _ F243 => ?_; clear F241
       refine qp 22 (.int .i64 (R.length + 1 : Nat)) F243 rfl (wanted_guard rfl rfl rfl F243 rfl ((decide_eq_true rfl) : decide ((s : Int) = (s : Int)) = true) rfl) (fun W => (rn_addN (a := R.length) (b := 1) (F243.get rfl) rfl (by omega))) fun _ F245 => ?_; clear F243
       refine qp 23 (.bool (decide ((((R ++ [b]).length : Nat) : Int) = ((R.length + 1 : Nat) : Int)))) F245 rfl (wanted_guard rfl rfl rfl F245 rfl ((decide_eq_true rfl) : decide ((s : Int) = (s : Int)) = true) rfl) (fun W => (rn_eql (F245.get rfl) (F245.get rfl))) fun _ F247 => ?_; clear F245
       refine qp 24 (.bool (decide ((((R ++ [b]).length : Nat) : Int) = ((R.length + 1 : Nat) : Int)))) F247 rfl rfl (fun W => (rn_pickT (c_true F247 rfl ((decide_eq_true rfl) : decide ((s : Int) = (s : Int)) = true)) (F247.get rfl))) fun _ F249 => ?_; clear F247
       refine qp 25 (.bool (decide ((((R ++ [b]).length : Nat) : Int) = ((R.length + 1 : Nat) : Int)))) F249 rfl rfl (fun W => (rn_move (F249.get rfl))) fun _ F251 => ?_; clear F249
       refine qp 26 (.pointer (some ⟨g110, 1, none⟩)) F251 rfl (wanted_guard rfl rfl rfl F251 rfl ((decide_eq_true (by omega)) : decide ((((R ++ [b]).length : Nat) : Int) = ((R.length + 1 : Nat) : Int)) = true) rfl) (fun W => (rn_field Try.underlying29 rfl (by kernel_rfl) (F251.get rfl) rfl)) fun _ F254 => ?_; clear F251
       refine qs 27 (.slice A93 ((R ++ [b]).length) c94) F254 rfl (wanted_guard rfl rfl rfl F254 rfl ((decide_eq_true (by omega)) : decide ((((R ++ [b]).length : Nat) : Int) = ((R.length + 1 : Nat) : Int)) = true) rfl) hS207 (fun W hW => (rn_load (isAgg_no Try.underlying22 rfl) (F254.get rfl) (hW.2.1.rule.1 1))) fun _ F256 => ?_; clear F254
       refine qp 28 (.int .i64 (R.length : Nat)) F256 rfl (wanted_guard rfl rfl rfl F256 rfl ((decide_eq_true (by omega)) : decide ((((R ++ [b]).length : Nat) : Int) = ((R.length + 1 : Nat) : Int)) = true) rfl) (fun W => (rn_move (F256.get rfl))) fun _ F258 => ?_; clear F256
       refine qp 29 (.slice A93 R.length c94) F258 rfl (wanted_guard rfl rfl rfl F258 rfl ((decide_eq_true (by omega)) : decide ((((R ++ [b]).length : Nat) : Int) = ((R.length + 1 : Nat) : Int)) = true) rfl) (fun W => (rn_sliceHi Try.underlying22 inf35 (F258.get rfl) (F258.get rfl) (by omega : (0 : Int) ≤ (R.length : Nat)) (by omega : ((R.length : Nat) : Int) ≤ ((c94 : Nat) : Int)))) fun _ F260 => ?_; clear F258
       refine qp 30 (.pointer (some ⟨g2, 1, none⟩)) F260 rfl (wanted_guard rfl rfl rfl F260 rfl ((decide_eq_true (by omega)) : decide ((((R ++ [b]).length : Nat) : Int) = ((R.length + 1 : Nat) : Int)) = true) rfl) (fun W => (rn_field Try.underlying29 rfl (by kernel_rfl) (F260.get rfl) rfl)) fun _ F262 => ?_; clear F260
       refine qs 31 (.slice A R.length c) F262 rfl (wanted_guard rfl rfl rfl F262 rfl ((decide_eq_true (by omega)) : decide ((((R ++ [b]).length : Nat) : Int) = ((R.length + 1 : Nat) : Int)) = true) rfl) hS207 (fun W hW => (rn_load (isAgg_no Try.underlying22 rfl) (F262.get rfl) (hW.2.2.rule.1 1))) fun _ F264 => ?_; clear F262
       refine any_one (i := 32) (by decide +kernel) rfl ?_
       have d265 := (hf101.pres ((((((Pres.refl w96).ext hx113).grownN hg120 (fun h => by simp only [Clip] at h; omega)).ext hx132).ext hx184).ext hx195))
       have d266 := (hnc.pres (((((((((((Pres.refl w).ext hx5).ext hx15).ext hx34).ext hx71).ext hx97).ext hx113).grownN hg120 (fun h => by simp only [Clip] at h; omega)).ext hx132).ext hx184).ext hx195))
       refine o_call F264 rfl (wanted_guard rfl rfl rfl F264 rfl ((decide_eq_true (by omega)) : decide ((((R ++ [b]).length : Nat) : Int) = ((R.length + 1 : Nat) : Int)) = true) rfl) rfl rfl (rn_call (args2 (F264.get rfl) (F264.get rfl)) rfl (by kernel_rfl)) (samer_at (v := (.slice A93 R.length c94)) (u := (.slice A R.length c)) ((R ++ [b]).take R.length) R _ (RSl.take d265 (by omega : R.length ≤ (R ++ [b]).length) (by omega : R.length ≤ c94) (by omega)) d266) ?_
       rintro _ w267 ⟨rfl, hx268⟩
       refine ⟨_, rfl, ?_⟩; intro a269 F270; clear F264; have z271 := hx268.size
       have b272 := (b199.ext hx268)
       have b273 := (b200.ext hx268)
       refine ⟨fun _ _ => ⟨(((Ext.refl w183).trans hx195).trans hx268), b272, b273⟩, ?_⟩
       refine qp 33 (.bool (decide (((R ++ [b]).take R.length) = R))) F270 rfl rfl (fun W => (rn_pickT (c_true F270 rfl ((decide_eq_true (by omega)) : decide ((((R ++ [b]).length : Nat) : Int) = ((R.length + 1 : Nat) : Int)) = true)) (F270.get rfl))) fun _ F275 => ?_; clear F270
       refine qp 34 (.bool (decide (((R ++ [b]).take R.length) = R))) F275 rfl rfl (fun W => (rn_move (F275.get rfl))) fun _ F277 => ?_; clear F275
       refine qp 35 (.pointer (some ⟨g110, 1, none⟩)) F277 rfl (wanted_guard rfl rfl rfl F277 rfl ((decide_eq_true (by simp)) : decide (((R ++ [b]).take R.length) = R) = true) rfl) (fun W => (rn_field Try.underlying29 rfl (by kernel_rfl) (F277.get rfl) rfl)) fun _ F280 => ?_; clear F277
       have hS281 : Ext w183 w267 ∧ Blk w267 g110 29 [(.int .i64 m), (.slice A93 ((R ++ [b]).length) c94), (.int .i64 s)] ∧ Blk w267 g2 29 [(.int .i64 m), (.slice A R.length c), (.int .i64 s)] := ⟨(((Ext.refl w183).trans hx195).trans hx268), b272, b273⟩
       refine qs 36 (.slice A93 ((R ++ [b]).length) c94) F280 rfl (wanted_guard rfl rfl rfl F280 rfl ((decide_eq_true (by simp)) : decide (((R ++ [b]).take R.length) = R) = true) rfl) hS281 (fun W hW => (rn_load (isAgg_no Try.underlying22 rfl) (F280.get rfl) (hW.2.1.rule.1 1))) fun _ F283 => ?_; clear F280
       refine qp 37 (.int .i64 (R.length : Nat)) F283 rfl (wanted_guard rfl rfl rfl F283 rfl ((decide_eq_true (by simp)) : decide (((R ++ [b]).take R.length) = R) = true) rfl) (fun W => (rn_move (F283.get rfl))) fun _ F285 => ?_; clear F283
       obtain ⟨x286, hi287, hm288⟩ := nth_of_lt (R ++ [b]) R.length (by omega)
       obtain ⟨b289, o290, A291, c292, hA293, hl294, hc295, hr296, le297, le298⟩ := RBss.get d192 hi287
       have z299 := hbR2 x286 (List.mem_of_getElem? hi287)
       refine qp 38 (.pointer (some ⟨b289, o290 + R.length, none⟩)) F285 rfl (wanted_guard rfl rfl rfl F285 rfl ((decide_eq_true (by simp)) : decide (((R ++ [b]).take R.length) = R) = true) rfl) (fun W => (rn_index1 Try.underlying22 inf35 ((F285.get rfl).trans (by rw [hA293])) (F285.get rfl) (by omega : (0 : Int) ≤ (R.length : Nat)) (by omega : ((R.length : Nat) : Int) < (((R ++ [b]).length : Nat) : Int)))) fun _ F301 => ?_; clear F285
       refine qs 39 (.slice A291 x286.length c292) F301 rfl (wanted_guard rfl rfl rfl F301 rfl ((decide_eq_true (by simp)) : decide (((R ++ [b]).take R.length) = R) = true) rfl) hS281 (fun W hW => (rn_load (isAgg_no Try.underlying35 rfl) (F301.get rfl) (Ext.keep ((Ext.refl w183).trans hW.1) hc295))) fun _ F303 => ?_; clear F301
       refine qs 40 (strOf x286) F303 rfl (wanted_guard rfl rfl rfl F303 rfl ((decide_eq_true (by simp)) : decide (((R ++ [b]).take R.length) = R) = true) rfl) hS281 (fun W hW => (rn_str (F303.get rfl) (Fl.rbs ((RBs.fl hr296).ext hW.1)) Try.underlying35 Try.underlying5 Try.underlying9)) fun _ F305 => ?_; clear F303
       refine qp 41 (.slice B b.length e) F305 rfl (wanted_guard rfl rfl rfl F305 rfl ((decide_eq_true (by simp)) : decide (((R ++ [b]).take R.length) = R) = true) rfl) (fun W => (rn_move (F305.get rfl))) fun _ F307 => ?_; clear F305
       have d308 := (hfc.pres ((((((((((Pres.refl w).ext hx5).ext hx15).ext hx34).ext hx71).ext hx97).ext hx113).grownN hg120 (fun h => by simp only [Clip] at h; omega)).ext hx132).ext hx184))
       refine qs 42 (strOf b) F307 rfl (wanted_guard rfl rfl rfl F307 rfl ((decide_eq_true (by simp)) : decide (((R ++ [b]).take R.length) = R) = true) rfl) hS281 (fun W hW => (rn_str (F307.get rfl) (Fl.rbs (d308.ext hW.1)) Try.underlying35 Try.underlying5 Try.underlying9)) fun _ F310 => ?_; clear F307
       refine qp 43 (.bool (decide (x286 = b))) F310 rfl (wanted_guard rfl rfl rfl F310 rfl ((decide_eq_true (by simp)) : decide (((R ++ [b]).take R.length) = R) = true) rfl) (fun W => (rn_eqs (F310.get rfl) (F310.get rfl) rfl)) fun _ F312 => ?_; clear F310
       refine qp 44 (.bool (decide (x286 = b))) F312 rfl rfl (fun W => (rn_pickT (c_true F312 rfl ((decide_eq_true (by simp)) : decide (((R ++ [b]).take R.length) = R) = true)) (F312.get rfl))) fun _ F314 => ?_; clear F312
       refine qp 45 (.bool (decide (x286 = b))) F314 rfl rfl (fun W => (rn_move (F314.get rfl))) fun _ F316 => ?_; clear F314
       refine qs 46 (.agg #[(.int .i64 m), (.slice A93 ((R ++ [b]).length) c94), (.int .i64 s)]) F316 rfl (wanted_guard rfl rfl rfl F316 rfl ((decide_eq_true (by have h := hi287; simp at h; exact h.symm)) : decide (x286 = b) = true) rfl) hS281 (fun W hW => (rn_loadBlk (F316.get rfl) hW.2.1 Try.underlying29 rfl inf29)) fun _ F319 => ?_; clear F316
       refine qp 48 (.int .i64 (112 * (m - ((usedL R : Nat) : Int)))) F319 rfl (wanted_guard rfl rfl rfl F319 rfl ((decide_eq_true (by have h := hi287; simp at h; exact h.symm)) : decide (x286 = b) = true) rfl) (fun W => (rn_move (F319.get rfl))) fun _ F321 => ?_; clear F319
       refine any_one (i := 47) (by decide +kernel) rfl ?_
       have d322 := (hf101.pres (((((((Pres.refl w96).ext hx113).grownN hg120 (fun h => by simp only [Clip] at h; omega)).ext hx132).ext hx184).ext hx195).ext hx268))
       have hrm323 := room_at (v := (.slice A93 ((R ++ [b]).length) c94)) m (R ++ [b]) s w267 d322 hbR2
       rw [room_eq hck2 (by omega)] at hrm323
       refine o_call F321 rfl (wanted_guard rfl rfl rfl F321 rfl ((decide_eq_true (by have h := hi287; simp at h; exact h.symm)) : decide (x286 = b) = true) rfl) rfl rfl (rn_call (args1 (F321.get rfl)) rfl (by kernel_rfl)) hrm323 ?_
       rintro _ w324 ⟨rfl, hx325⟩
       refine ⟨_, rfl, ?_⟩; intro a326 F327; clear F321; have z328 := hx325.size
       have b329 := (b272.ext hx325)
       have b330 := (b273.ext hx325)
       refine ⟨fun _ _ => ⟨((((Ext.refl w183).trans hx195).trans hx268).trans hx325), b329, b330⟩, ?_⟩
       refine qp 49 (.bool (decide ((112 * (m - ((usedL (R ++ [b]) : Nat) : Int)) : Int) < (112 * (m - ((usedL R : Nat) : Int)) : Int)))) F327 rfl (wanted_guard rfl rfl rfl F327 rfl ((decide_eq_true (by have h := hi287; simp at h; exact h.symm)) : decide (x286 = b) = true) rfl) (fun W => (rn_lss (F327.get rfl) (F327.get rfl))) fun _ F332 => ?_; clear F327
       refine qp 50 (.bool (decide ((112 * (m - ((usedL (R ++ [b]) : Nat) : Int)) : Int) < (112 * (m - ((usedL R : Nat) : Int)) : Int)))) F332 rfl rfl (fun W => (rn_pickT (c_true F332 rfl ((decide_eq_true (by have h := hi287; simp at h; exact h.symm)) : decide (x286 = b) = true)) (F332.get rfl))) fun _ F334 => ?_; clear F332
       refine qp 51 (.bool (decide ((112 * (m - ((usedL (R ++ [b]) : Nat) : Int)) : Int) < (112 * (m - ((usedL R : Nat) : Int)) : Int)))) F334 rfl rfl (fun W => (rn_assign (F334.get rfl))) fun _ F336 => ?_; clear F334
       refine any_nil (by decide +kernel) ?_
       refine hK182 _ _ ?_
       clear hK182
       have F337 := ((((((((((((F336.nil.c F336 8 rfl).c F336 46 rfl).c F336 44 rfl).c F336 7 rfl).c F336 6 rfl).c F336 5 rfl).c F336 25 rfl).c F336 10 rfl).c F336 4 rfl).c F336 2 rfl).c F336 1 rfl).c F336 0 rfl)
       clear F336
       refine wp_ret ?_
       refine ret1 F337 rfl rfl ?_
       exact ⟨congrArg (fun b => Ending.returned (.bool b)) (((decide_eq_true (by omega)) : decide ((112 * (m - ((usedL (R ++ [b]) : Nat) : Int)) : Int) < (112 * (m - ((usedL R : Nat) : Int)) : Int)) = true) : decide ((112 * (m - ((usedL (R ++ [b]) : Nat) : Int)) : Int) < (112 * (m - ((usedL R : Nat) : Int)) : Int)) = true), (((((((((((((Ext.refl w).trans hx5).trans hx15).trans hx34).trans hx71).trans hx97).trans hx113).grownN hg120 (by omega)).trans hx132).trans hx184).trans hx195).trans hx268).trans hx325)⟩
      ·skip
       refine qv 10 (.bool true) F160 rfl (rn_neB Try.underlying4 (F160.get rfl) (F160.get rfl) (show _ = true from rfl) (show _ = false from (decide_eq_false hc161)) rfl) fun _ F339 => ?_; clear F160
       refine wpList_nil ?_
       refine hK139 _ _ ?_
       clear hK139
       have F340 := ((((((((((F339.nil.c F339 44 rfl).c F339 7 rfl).c F339 6 rfl).c F339 5 rfl).c F339 25 rfl).c F339 10 rfl).c F339 4 rfl).c F339 2 rfl).c F339 1 rfl).c F339 0 rfl)
       clear F339
       refine wp_cond_true (c_true F340 rfl rfl) ?_
       refine wp_seq_k (fun K341 hK341 => ?_)
       refine wp_region_lit ?_
       refine qv 0 (.bool false) F340 rfl (rn_assign rfl) fun _ F343 => ?_; clear F340
       refine wpList_nil ?_
       refine hK341 _ _ ?_
       clear hK341
       refine wp_ret ?_
       refine ret_then ?_
       refine ret1 F343 rfl rfl ?_
       exfalso; omega
     ·skip
      refine qu 5 F149 (decide_eq_false hc150) fun _ F345 => ?_; clear F149
      refine qu 6 F345 (decide_eq_false hc150) fun _ F347 => ?_; clear F345
      refine qu 7 F347 (decide_eq_false hc150) fun _ F349 => ?_; clear F347
      refine qu 8 F349 (decide_eq_false hc150) fun _ F351 => ?_; clear F349
      refine qv 9 (.bool false) F351 rfl (rn_pickF (c_false F351 rfl (decide_eq_false hc150)) rfl) fun _ F353 => ?_; clear F351
      refine qv 10 (.bool true) F353 rfl (rn_neB Try.underlying4 (F353.get rfl) (F353.get rfl) (show _ = true from rfl) (show _ = false from rfl) rfl) fun _ F355 => ?_; clear F353
      refine wpList_nil ?_
      refine hK139 _ _ ?_
      clear hK139
      have F356 := ((((((((((F355.nil.c F355 44 rfl).c F355 7 rfl).c F355 6 rfl).c F355 5 rfl).c F355 25 rfl).c F355 10 rfl).c F355 4 rfl).c F355 2 rfl).c F355 1 rfl).c F355 0 rfl)
      clear F355
      refine wp_cond_true (c_true F356 rfl rfl) ?_
      refine wp_seq_k (fun K357 hK357 => ?_)
      refine wp_region_lit ?_
      refine qv 0 (.bool false) F356 rfl (rn_assign rfl) fun _ F359 => ?_; clear F356
      refine wpList_nil ?_
      refine hK357 _ _ ?_
      clear hK357
      refine wp_ret ?_
      refine ret_then ?_
      refine ret1 F359 rfl rfl ?_
      exfalso; omega
    ·skip
     have hfit := hc85; have hsp := secs_pos b.length; have hsec : secs b.length = max 1 ((b.length + 111) / 112) := rfl
     have hbR2 : ∀ x ∈ R ++ [b], x.length ≤ 140737488355328 := fun x hx => by rcases List.mem_append.1 hx with h | h; exact hb x h; rw [List.mem_singleton.1 h]; omega
     refine wp_region_lit ?_
     have b360 := (b66.ext hx71)
     refine qv 0 (.agg #[(.int .i64 m), (.slice A R.length c), (.int .i64 s)]) F79 rfl (rn_loadBlk (F79.get rfl) b360 Try.underlying29 rfl inf29) fun _ F362 => ?_; clear F79
     refine qv 1 (.slice B b.length e) F362 rfl (rn_move (F362.get rfl)) fun _ F364 => ?_; clear F362
     have d365 := ((((hnc.ext hx5).ext hx15).ext hx34).ext hx71)
     have d366 := ((((hfc.ext hx5).ext hx15).ext hx34).ext hx71)
     refine wpl_op (i := 2) rfl (o_call F364 rfl rfl rfl rfl (rn_call (args2 (F364.get rfl) (F364.get rfl)) rfl (by kernel_rfl)) (app_conv (app_at (S := (fun b => (Clip S w) b ∨ (Clip S w) b)) (v := (.slice A R.length c)) (u := (.slice B b.length e)) (n := b.length) m R s b _ (RBss.sub d365 fun b hb => .inl hb) hb (by omega) (Fl.sub d366 fun b hb => .inr hb) (by omega)) (app_full hlc hu hfit)) ?_)
     rintro _ w370 ⟨A367, c368, rfl, hb369, hx371⟩
     refine ⟨_, rfl, ?_⟩; intro a372 F373; clear F364; have z374 := hx371.size
     have hf375 := RBss.clip hb369
     obtain ⟨-, z376, z377⟩ := RBss.at hb369
     refine qv 3 (.tuple #[(.agg #[(.int .i64 0), (.slice A367 ((@List.nil (List UInt8)).length) c368), (.int .i64 0)]), (.int .i64 2)]) F373 rfl (rn_move (F373.get rfl)) fun _ F379 => ?_; clear F373
     refine qv 4 (.agg #[(.int .i64 0), (.slice A367 ((@List.nil (List UInt8)).length) c368), (.int .i64 0)]) F379 rfl (rn_extract (F379.get rfl) rfl) fun _ F381 => ?_; clear F379
     refine qv 5 (.int .i64 2) F381 rfl (rn_extract (F381.get rfl) rfl) fun _ F383 => ?_; clear F381
     refine wpl_op (i := 6) rfl (o_new (fun g => (.pointer (some ⟨g, 0, none⟩))) [(.int .i64 0), (.slice none 0 0), (.int .i64 0)] 29 F383 rfl rfl rfl rfl (by kernel_rfl) ?_)
     intro g384 w385 a390 F391 z388 z389 b386 hx387; clear F383
     refine wpl_op (i := 7) rfl (o_store (cells := [(.int .i64 0), (.slice A367 ((@List.nil (List UInt8)).length) c368), (.int .i64 0)]) F391 rfl rfl rfl rfl (F391.get rfl) (F391.get rfl) b386 inf29 rfl (by simp [Value.oneCell']) ?_)
     intro w392 b393 hg394; have z395 := hg394.size
     refine qv 8 (.int .i64 2) F391 rfl (rn_assign (F391.get rfl)) fun _ F397 => ?_; clear F391
     refine wpList_nil ?_
     refine hK84 _ _ ?_
     clear hK84
     have F398 := ((((((((F397.nil.c F397 6 rfl).c F397 5 rfl).c F397 25 rfl).c F397 10 rfl).c F397 4 rfl).c F397 2 rfl).c F397 1 rfl).c F397 0 rfl)
     clear F397
     refine wp_seq_k (fun K399 hK399 => ?_)
     refine wp_region_lit ?_
     have b400 := (((b360.ext hx371).ext hx387).grownN hg394 (by omega))
     refine qv 0 (.agg #[(.int .i64 m), (.slice A R.length c), (.int .i64 s)]) F398 rfl (rn_loadBlk (F398.get rfl) b400 Try.underlying29 rfl inf29) fun _ F402 => ?_; clear F398
     have d403 := (hnc.pres ((((((((Pres.refl w).ext hx5).ext hx15).ext hx34).ext hx71).ext hx371).ext hx387).grownN hg394 (fun h => by simp only [Clip] at h; omega)))
     have hrm404 := room_at (v := (.slice A R.length c)) m (R) s w392 d403 hb
     rw [room_eq hlc hu] at hrm404
     refine wpl_op (i := 1) rfl (o_call F402 rfl rfl rfl rfl (rn_call (args1 (F402.get rfl)) rfl (by kernel_rfl)) hrm404 ?_)
     rintro _ w405 ⟨rfl, hx406⟩
     refine ⟨_, rfl, ?_⟩; intro a407 F408; clear F402; have z409 := hx406.size
     refine qv 2 (.int .i64 (112 * (m - ((usedL R : Nat) : Int)))) F408 rfl (rn_assign (F408.get rfl)) fun _ F411 => ?_; clear F408
     refine wpList_nil ?_
     refine hK399 _ _ ?_
     clear hK399
     refine wp_seq_k (fun K412 hK412 => ?_)
     refine wp_seq_k (fun K413 hK413 => ?_)
     refine wp_region_lit ?_
     refine qv 0 (.int .i64 2) F411 rfl (rn_move (F411.get rfl)) fun _ F415 => ?_; clear F411
     refine qv 1 (.bool false) F415 rfl (rn_eql' (F415.get rfl) rfl (by decide)) fun _ F417 => ?_; clear F415
     refine qv 2 (.int .i64 (112 * (m - ((usedL R : Nat) : Int)))) F417 rfl (rn_move (F417.get rfl)) fun _ F419 => ?_; clear F417
     refine qv 3 (.bool (decide ((0 : Int) < (112 * (m - ((usedL R : Nat) : Int)) : Int)))) F419 rfl (rn_gtr (F419.get rfl) rfl) fun _ F421 => ?_; clear F419
     refine qv 4 (.bool (decide ((0 : Int) < (112 * (m - ((usedL R : Nat) : Int)) : Int)))) F421 rfl (rn_move (F421.get rfl)) fun _ F423 => ?_; clear F421
     by_cases hc424 : (0 : Int) < (112 * (m - ((usedL R : Nat) : Int)) : Int)
     ·skip
      refine qg 5 (.slice B b.length e) F423 (decide_eq_true hc424) (rn_move (F423.get rfl)) fun _ F426 => ?_; clear F423
      refine qg 6 (.int .i64 (b.length : Nat)) F426 (decide_eq_true hc424) (rn_len_slice Try.underlying35 (F426.get rfl)) fun _ F428 => ?_; clear F426
      refine qg 7 (.int .i64 (112 * (m - ((usedL R : Nat) : Int)))) F428 (decide_eq_true hc424) (rn_move (F428.get rfl)) fun _ F430 => ?_; clear F428
      refine qg 8 (.bool (decide (((b.length : Nat) : Int) ≤ (112 * (m - ((usedL R : Nat) : Int)) : Int)))) F430 (decide_eq_true hc424) (rn_leq (F430.get rfl) (F430.get rfl)) fun _ F432 => ?_; clear F430
      refine qv 9 (.bool (decide (((b.length : Nat) : Int) ≤ (112 * (m - ((usedL R : Nat) : Int)) : Int)))) F432 rfl (rn_pickT (c_true F432 rfl (decide_eq_true hc424)) (F432.get rfl)) fun _ F434 => ?_; clear F432
      by_cases hc435 : ((b.length : Nat) : Int) ≤ (112 * (m - ((usedL R : Nat) : Int)) : Int)
      ·skip
       refine qv 10 (.bool true) F434 rfl (rn_neB Try.underlying4 (F434.get rfl) (F434.get rfl) (show _ = false from rfl) (show _ = true from (decide_eq_true hc435)) rfl) fun _ F437 => ?_; clear F434
       refine wpList_nil ?_
       refine hK413 _ _ ?_
       clear hK413
       have F438 := ((((((((((F437.nil.c F437 44 rfl).c F437 7 rfl).c F437 6 rfl).c F437 5 rfl).c F437 25 rfl).c F437 10 rfl).c F437 4 rfl).c F437 2 rfl).c F437 1 rfl).c F437 0 rfl)
       clear F437
       refine wp_cond_true (c_true F438 rfl rfl) ?_
       refine wp_seq_k (fun K439 hK439 => ?_)
       refine wp_region_lit ?_
       refine qv 0 (.bool false) F438 rfl (rn_assign rfl) fun _ F441 => ?_; clear F438
       refine wpList_nil ?_
       refine hK439 _ _ ?_
       clear hK439
       refine wp_ret ?_
       refine ret_then ?_
       refine ret1 F441 rfl rfl ?_
       exfalso; omega
      ·skip
       refine qv 10 (.bool false) F434 rfl (rn_neB Try.underlying4 (F434.get rfl) (F434.get rfl) (show _ = false from rfl) (show _ = false from (decide_eq_false hc435)) rfl) fun _ F443 => ?_; clear F434
       refine wpList_nil ?_
       refine hK413 _ _ ?_
       clear hK413
       have F444 := ((((((((((F443.nil.c F443 44 rfl).c F443 7 rfl).c F443 6 rfl).c F443 5 rfl).c F443 25 rfl).c F443 10 rfl).c F443 4 rfl).c F443 2 rfl).c F443 1 rfl).c F443 0 rfl)
       clear F443
       refine wp_cond_false (c_false F444 rfl rfl) ?_
       refine wp_skip ?_
       refine hK412 _ _ ?_
       clear hK412
       refine wp_seq_k (fun K445 hK445 => ?_)
       refine wp_seq_k (fun K446 hK446 => ?_)
       refine wp_region_lit ?_
       refine qv 0 (.int .i64 2) F444 rfl (rn_move (F444.get rfl)) fun _ F448 => ?_; clear F444
       refine qv 1 (.bool true) F448 rfl (rn_neq' (F448.get rfl) rfl (by decide)) fun _ F450 => ?_; clear F448
       refine wpList_nil ?_
       refine hK446 _ _ ?_
       clear hK446
       refine wp_cond_true (c_true F450 rfl rfl) ?_
       refine wp_seq_k (fun K451 hK451 => ?_)
       refine wp_region_lit ?_
       refine qv 0 (.int .i64 2) F450 rfl (rn_move (F450.get rfl)) fun _ F453 => ?_; clear F450
       refine qv 1 (.bool true) F453 rfl (rn_eql' (F453.get rfl) rfl (by decide)) fun _ F455 => ?_; clear F453
       refine qv 2 (.bool true) F455 rfl (rn_move (F455.get rfl)) fun _ F457 => ?_; clear F455
       refine qg 3 (.pointer (some ⟨g384, 1, none⟩)) F457 rfl (rn_field Try.underlying29 rfl (by kernel_rfl) (F457.get rfl) rfl) fun _ F459 => ?_; clear F457
       have b460 := (b393.ext hx406)
       refine qg 4 (.slice A367 ((@List.nil (List UInt8)).length) c368) F459 rfl (rn_load (isAgg_no Try.underlying22 rfl) (F459.get rfl) (b460.rule.1 1)) fun _ F462 => ?_; clear F459
       refine qg 5 (.int .i64 ((@List.nil (List UInt8)).length : Nat)) F462 rfl (rn_len_slice Try.underlying22 (F462.get rfl)) fun _ F464 => ?_; clear F462
       refine qg 6 (.bool (decide ((((@List.nil (List UInt8)).length : Nat) : Int) = (0 : Int)))) F464 rfl (rn_eql (F464.get rfl) rfl) fun _ F466 => ?_; clear F464
       refine qv 7 (.bool (decide ((((@List.nil (List UInt8)).length : Nat) : Int) = (0 : Int)))) F466 rfl (rn_pickT (c_true F466 rfl rfl) (F466.get rfl)) fun _ F468 => ?_; clear F466
       refine qv 8 (.bool (decide ((((@List.nil (List UInt8)).length : Nat) : Int) = (0 : Int)))) F468 rfl (rn_assign (F468.get rfl)) fun _ F470 => ?_; clear F468
       refine wpList_nil ?_
       refine hK451 _ _ ?_
       clear hK451
       have F471 := (((((((((((F470.nil.c F470 46 rfl).c F470 44 rfl).c F470 7 rfl).c F470 6 rfl).c F470 5 rfl).c F470 25 rfl).c F470 10 rfl).c F470 4 rfl).c F470 2 rfl).c F470 1 rfl).c F470 0 rfl)
       clear F470
       refine wp_ret ?_
       refine ret_then ?_
       refine ret1 F471 rfl rfl ?_
       exact ⟨congrArg (fun b => Ending.returned (.bool b)) (((by decide) : decide ((((@List.nil (List UInt8)).length : Nat) : Int) = (0 : Int)) = true) : decide ((((@List.nil (List UInt8)).length : Nat) : Int) = (0 : Int)) = true), (((((((((Ext.refl w).trans hx5).trans hx15).trans hx34).trans hx71).trans hx371).trans hx387).grownN hg394 (by omega)).trans hx406)⟩
     ·skip
      refine qu 5 F423 (decide_eq_false hc424) fun _ F473 => ?_; clear F423
      refine qu 6 F473 (decide_eq_false hc424) fun _ F475 => ?_; clear F473
      refine qu 7 F475 (decide_eq_false hc424) fun _ F477 => ?_; clear F475
      refine qu 8 F477 (decide_eq_false hc424) fun _ F479 => ?_; clear F477
      refine qv 9 (.bool false) F479 rfl (rn_pickF (c_false F479 rfl (decide_eq_false hc424)) rfl) fun _ F481 => ?_; clear F479
      refine qv 10 (.bool false) F481 rfl (rn_neB Try.underlying4 (F481.get rfl) (F481.get rfl) (show _ = false from rfl) (show _ = false from rfl) rfl) fun _ F483 => ?_; clear F481
      refine wpList_nil ?_
      refine hK413 _ _ ?_
      clear hK413
      have F484 := ((((((((((F483.nil.c F483 44 rfl).c F483 7 rfl).c F483 6 rfl).c F483 5 rfl).c F483 25 rfl).c F483 10 rfl).c F483 4 rfl).c F483 2 rfl).c F483 1 rfl).c F483 0 rfl)
      clear F483
      refine wp_cond_false (c_false F484 rfl rfl) ?_
      refine wp_skip ?_
      refine hK412 _ _ ?_
      clear hK412
      refine wp_seq_k (fun K485 hK485 => ?_)
      refine wp_seq_k (fun K486 hK486 => ?_)
      refine wp_region_lit ?_
      refine qv 0 (.int .i64 2) F484 rfl (rn_move (F484.get rfl)) fun _ F488 => ?_; clear F484
      refine qv 1 (.bool true) F488 rfl (rn_neq' (F488.get rfl) rfl (by decide)) fun _ F490 => ?_; clear F488
      refine wpList_nil ?_
      refine hK486 _ _ ?_
      clear hK486
      refine wp_cond_true (c_true F490 rfl rfl) ?_
      refine wp_seq_k (fun K491 hK491 => ?_)
      refine wp_region_lit ?_
      refine qv 0 (.int .i64 2) F490 rfl (rn_move (F490.get rfl)) fun _ F493 => ?_; clear F490
      refine qv 1 (.bool true) F493 rfl (rn_eql' (F493.get rfl) rfl (by decide)) fun _ F495 => ?_; clear F493
      refine qv 2 (.bool true) F495 rfl (rn_move (F495.get rfl)) fun _ F497 => ?_; clear F495
      refine qg 3 (.pointer (some ⟨g384, 1, none⟩)) F497 rfl (rn_field Try.underlying29 rfl (by kernel_rfl) (F497.get rfl) rfl) fun _ F499 => ?_; clear F497
      have b500 := (b393.ext hx406)
      refine qg 4 (.slice A367 ((@List.nil (List UInt8)).length) c368) F499 rfl (rn_load (isAgg_no Try.underlying22 rfl) (F499.get rfl) (b500.rule.1 1)) fun _ F502 => ?_; clear F499
      refine qg 5 (.int .i64 ((@List.nil (List UInt8)).length : Nat)) F502 rfl (rn_len_slice Try.underlying22 (F502.get rfl)) fun _ F504 => ?_; clear F502
      refine qg 6 (.bool (decide ((((@List.nil (List UInt8)).length : Nat) : Int) = (0 : Int)))) F504 rfl (rn_eql (F504.get rfl) rfl) fun _ F506 => ?_; clear F504
      refine qv 7 (.bool (decide ((((@List.nil (List UInt8)).length : Nat) : Int) = (0 : Int)))) F506 rfl (rn_pickT (c_true F506 rfl rfl) (F506.get rfl)) fun _ F508 => ?_; clear F506
      refine qv 8 (.bool (decide ((((@List.nil (List UInt8)).length : Nat) : Int) = (0 : Int)))) F508 rfl (rn_assign (F508.get rfl)) fun _ F510 => ?_; clear F508
      refine wpList_nil ?_
      refine hK491 _ _ ?_
      clear hK491
      have F511 := (((((((((((F510.nil.c F510 46 rfl).c F510 44 rfl).c F510 7 rfl).c F510 6 rfl).c F510 5 rfl).c F510 25 rfl).c F510 10 rfl).c F510 4 rfl).c F510 2 rfl).c F510 1 rfl).c F510 0 rfl)
      clear F510
      refine wp_ret ?_
      refine ret_then ?_
      refine ret1 F511 rfl rfl ?_
      exact ⟨congrArg (fun b => Ending.returned (.bool b)) (((by decide) : decide ((((@List.nil (List UInt8)).length : Nat) : Int) = (0 : Int)) = true) : decide ((((@List.nil (List UInt8)).length : Nat) : Int) = (0 : Int)) = true), (((((((((Ext.refl w).trans hx5).trans hx15).trans hx34).trans hx71).trans hx371).trans hx387).grownN hg394 (by omega)).trans hx406)⟩
 ·skip
  refine qu 6 F41 (not_f hc42) fun _ F513 => ?_; clear F41
  refine qu 7 F513 (not_f hc42) fun _ F515 => ?_; clear F513
  refine qu 8 F515 (not_f hc42) fun _ F517 => ?_; clear F515
  refine qv 9 (.bool true) F517 rfl (rn_pickT (c_true F517 rfl (not_f hc42)) rfl) fun _ F519 => ?_; clear F517
  refine qv 10 (.bool true) F519 rfl (rn_move (F519.get rfl)) fun _ F521 => ?_; clear F519
  refine qu 11 F521 rfl fun _ F523 => ?_; clear F521
  refine qu 12 F523 rfl fun _ F525 => ?_; clear F523
  refine qu 13 F525 rfl fun _ F527 => ?_; clear F525
  refine qv 14 (.bool true) F527 rfl (rn_pickT (c_true F527 rfl rfl) rfl) fun _ F529 => ?_; clear F527
  refine wpList_nil ?_
  refine hK22 _ _ ?_
  clear hK22
  have F530 := ((((((F529.nil.c F529 25 rfl).c F529 10 rfl).c F529 4 rfl).c F529 2 rfl).c F529 1 rfl).c F529 0 rfl)
  clear F529
  refine wp_cond_true (c_true F530 rfl rfl) ?_
  refine wp_seq_k (fun K531 hK531 => ?_)
  refine wp_region_lit ?_
  refine qv 0 (.bool true) F530 rfl (rn_assign rfl) fun _ F533 => ?_; clear F530
  refine wpList_nil ?_
  refine hK531 _ _ ?_
  clear hK531
  refine wp_ret ?_
  refine ret_then ?_
  refine ret1 F533 rfl rfl ?_
  exact ⟨congrArg (fun b => Ending.returned (.bool b)) (rfl : true = true), ((((Ext.refl w).trans hx5).trans hx15).trans hx34)⟩

end Go.Proofs.Ytfmhnplkpohogaa
