/- Several texts in one: JrG, JrI, JrL. -/
import Derived.Test.YtfmhnplkpohogaaProg
import Derived.Test.YtfmhnplkpohogaaBvgD
import Derived.KernelRfl
import Derived.Test.YtfmhnplkpohogaaBvgA
import Derived.Test.YtfmhnplkpohogaaBvgB
import Derived.Lib.AppendZerosOnto
import Derived.Test.YtfmhnplkpohogaaBvgC
set_option linter.unusedVariables false
set_option linter.unusedSimpArgs false
namespace Go.Proofs.Ytfmhnplkpohogaa
open Go.RowKit

variable {S S' : Nat → Prop}

set_option maxRecDepth 100000 in
set_option maxHeartbeats 1000000 in
theorem good_any (A : Option Addr) (c : Nat) (s : List UInt8) (k : Nat) (w : World) (hf : Fl S w 1 (.slice A s.length c) s.length (byteVals s)) (hs : s.length = 128) (hk : k < 65536) :
  Calls Try.prog 61 #[.slice A s.length c, .int .i64 (k : Nat)] w (fun e w' => e = .returned (.bool (goodS s k)) ∧ Ext w w') := by
 have hc : Fl (Clip S w) w 1 (.slice A s.length c) s.length (byteVals s) := hf.clip
 have hcc := (Fl.cel hc).2.1
 refine calls_enter (l := [(.slice A s.length c), (.int .i64 (k : Nat))]) Try.func61 rfl rfl rfl (fun aA hF => ?_)
 refine wp_seq_k (fun K1 hK1 => ?_)
 refine wp_region_lit ?_
 refine qv 0 (.bool false) hF rfl (rn_assign rfl) fun _ F3 => ?_; clear hF
 refine wpList_nil ?_
 refine hK1 _ _ ?_
 clear hK1
 refine wp_seq_k (fun K4 hK4 => ?_)
 refine wp_region_lit ?_
 refine qv 0 (.slice A s.length c) F3 rfl (rn_move (F3.get rfl)) fun _ F6 => ?_; clear F3
 obtain ⟨b7, o8, hA9, -⟩ := Fl.at hc (by omega)
 refine qv 1 (.pointer (some ⟨b7, o8 + 11, none⟩)) F6 rfl (rn_index1 Try.underlying35 inf5 ((F6.get rfl).trans (by rw [hA9])) rfl (by omega : (0 : Int) ≤ 11) (by omega : (11 : Int) < ((s.length : Nat) : Int))) fun _ F11 => ?_; clear F6
 refine qv 2 (.int .u8 ((s.getD 11 0).toNat : Nat)) F11 rfl (rn_load (isAgg_no Try.underlying5 rfl) (F11.get rfl) (Fl.cellAt hc hA9 (byteVals_at (i := 11) (by omega)))) fun _ F13 => ?_; clear F11
 have z14 := UInt8.toNat_lt (s.getD 11 0)
 refine qv 3 (.int .i64 ((s.getD 11 0).toNat : Nat)) F13 rfl (rn_convW Try.underlying5 Try.underlying3 (F13.get rfl) (cv8_64 (s.getD 11 0))) fun _ F16 => ?_; clear F13
 refine qv 4 (.int .i64 ((s.getD 11 0).toNat : Nat)) F16 rfl (rn_assign (F16.get rfl)) fun _ F18 => ?_; clear F16
 refine wpList_nil ?_
 refine hK4 _ _ ?_
 clear hK4
 have F19 := ((((F18.nil.c F18 5 rfl).c F18 4 rfl).c F18 1 rfl).c F18 0 rfl)
 clear F18
 refine wp_seq_k (fun K20 hK20 => ?_)
 refine wp_seq_k (fun K21 hK21 => ?_)
 have z22 := and2_fact (s.getD 10 0)
 have z23 := and1_fact (s.getD 10 0)
 have z24 := UInt8.toNat_lt (s.getD 10 0)
 refine wp_region_lit ?_
 refine qv 0 (.int .i64 ((s.getD 11 0).toNat : Nat)) F19 rfl (rn_move (F19.get rfl)) fun _ F26 => ?_; clear F19
 refine qv 1 (.bool (decide ((112 : Int) < (((s.getD 11 0).toNat : Nat) : Int)))) F26 rfl (rn_gtr (F26.get rfl) rfl) fun _ F28 => ?_; clear F26
 refine qv 2 (.bool (decide ((112 : Int) < (((s.getD 11 0).toNat : Nat) : Int)))) F28 rfl (rn_move (F28.get rfl)) fun _ F30 => ?_; clear F28
 by_cases hc31 : (112 : Int) < (((s.getD 11 0).toNat : Nat) : Int)
 ·skip
  refine qu 3 F30 (decide_eq_true hc31) fun _ F33 => ?_; clear F30
  refine qu 4 F33 (decide_eq_true hc31) fun _ F35 => ?_; clear F33
  refine qu 5 F35 (decide_eq_true hc31) fun _ F37 => ?_; clear F35
  refine qu 6 F37 (decide_eq_true hc31) fun _ F39 => ?_; clear F37
  refine qv 7 (.bool true) F39 rfl (rn_pickT (c_true F39 rfl (decide_eq_true hc31)) rfl) fun _ F41 => ?_; clear F39
  refine qv 8 (.bool true) F41 rfl (rn_move (F41.get rfl)) fun _ F43 => ?_; clear F41
  refine qu 9 F43 rfl fun _ F45 => ?_; clear F43
  refine qu 10 F45 rfl fun _ F47 => ?_; clear F45
  refine qu 11 F47 rfl fun _ F49 => ?_; clear F47
  refine qu 12 F49 rfl fun _ F51 => ?_; clear F49
  refine qu 13 F51 rfl fun _ F53 => ?_; clear F51
  refine qu 14 F53 rfl fun _ F55 => ?_; clear F53
  refine wpl_op (i := 15) rfl (o_skip F55 rfl (unwanted_undef rfl rfl rfl F55 rfl) rfl rfl ?_)
  intro a56 F57; clear F55
  refine wpl_op (i := 16) rfl (o_skip F57 rfl (unwanted_undef rfl rfl rfl F57 rfl) rfl rfl ?_)
  intro a58 F59; clear F57
  refine qu 17 F59 rfl fun _ F61 => ?_; clear F59
  refine qv 18 (.bool true) F61 rfl (rn_pickT (c_true F61 rfl rfl) rfl) fun _ F63 => ?_; clear F61
  refine qv 19 (.bool true) F63 rfl (rn_move (F63.get rfl)) fun _ F65 => ?_; clear F63
  refine qu 20 F65 rfl fun _ F67 => ?_; clear F65
  refine qu 21 F67 rfl fun _ F69 => ?_; clear F67
  refine qu 22 F69 rfl fun _ F71 => ?_; clear F69
  refine qu 23 F71 rfl fun _ F73 => ?_; clear F71
  refine qu 24 F73 rfl fun _ F75 => ?_; clear F73
  refine qu 25 F75 rfl fun _ F77 => ?_; clear F75
  refine wpl_op (i := 26) rfl (o_skip F77 rfl (unwanted_undef rfl rfl rfl F77 rfl) rfl rfl ?_)
  intro a78 F79; clear F77
  refine wpl_op (i := 27) rfl (o_skip F79 rfl (unwanted_undef rfl rfl rfl F79 rfl) rfl rfl ?_)
  intro a80 F81; clear F79
  refine qu 28 F81 rfl fun _ F83 => ?_; clear F81
  refine qv 29 (.bool true) F83 rfl (rn_pickT (c_true F83 rfl rfl) rfl) fun _ F85 => ?_; clear F83
  refine wpList_nil ?_
  refine hK21 _ _ ?_
  clear hK21
  have F86 := (((((F85.nil.c F85 40 rfl).c F85 5 rfl).c F85 4 rfl).c F85 1 rfl).c F85 0 rfl)
  clear F85
  refine wp_cond_true (c_true F86 rfl rfl) ?_
  refine wp_seq_k (fun K87 hK87 => ?_)
  refine wp_region_lit ?_
  refine qv 0 (.bool false) F86 rfl (rn_assign rfl) fun _ F89 => ?_; clear F86
  refine wpList_nil ?_
  refine hK87 _ _ ?_
  clear hK87
  refine wp_ret ?_
  refine ret_then ?_
  refine ret1 F89 rfl rfl ?_
  exact ⟨by rw [goodS_bad (show ¬ kindOk (s.getD 11 0).toNat (s.getD 10 0) by unfold kindOk; omega)], (Ext.refl w)⟩
 ·skip
  refine qg 3 (.slice A s.length c) F30 (decide_eq_false hc31) (rn_move (F30.get rfl)) fun _ F91 => ?_; clear F30
  refine qg 4 (.pointer (some ⟨b7, o8 + 10, none⟩)) F91 (decide_eq_false hc31) (rn_index1 Try.underlying35 inf5 ((F91.get rfl).trans (by rw [hA9])) rfl (by omega : (0 : Int) ≤ 10) (by omega : (10 : Int) < ((s.length : Nat) : Int))) fun _ F93 => ?_; clear F91
  refine qg 5 (.int .u8 ((s.getD 10 0).toNat : Nat)) F93 (decide_eq_false hc31) (rn_load (isAgg_no Try.underlying5 rfl) (F93.get rfl) (Fl.cellAt hc hA9 (byteVals_at (i := 10) (by omega)))) fun _ F95 => ?_; clear F93
  refine qg 6 (.bool (decide ((3 : Int) < (((s.getD 10 0).toNat : Nat) : Int)))) F95 (decide_eq_false hc31) (rn_gtr (F95.get rfl) rfl) fun _ F97 => ?_; clear F95
  refine qv 7 (.bool (decide ((3 : Int) < (((s.getD 10 0).toNat : Nat) : Int)))) F97 rfl (rn_pickF (c_false F97 rfl (decide_eq_false hc31)) (F97.get rfl)) fun _ F99 => ?_; clear F97
  refine qv 8 (.bool (decide ((3 : Int) < (((s.getD 10 0).toNat : Nat) : Int)))) F99 rfl (rn_move (F99.get rfl)) fun _ F101 => ?_; clear F99
  by_cases hc102 : (3 : Int) < (((s.getD 10 0).toNat : Nat) : Int)
  ·skip
   refine qu 9 F101 (decide_eq_true hc102) fun _ F104 => ?_; clear F101
   refine qu 10 F104 (decide_eq_true hc102) fun _ F106 => ?_; clear F104
   refine qu 11 F106 (decide_eq_true hc102) fun _ F108 => ?_; clear F106
   refine qu 12 F108 (decide_eq_true hc102) fun _ F110 => ?_; clear F108
   refine qu 13 F110 (decide_eq_true hc102) fun _ F112 => ?_; clear F110
   refine qu 14 F112 (decide_eq_true hc102) fun _ F114 => ?_; clear F112
   refine wpl_op (i := 15) rfl (o_skip F114 rfl (unwanted_undef rfl rfl rfl F114 rfl) rfl rfl ?_)
   intro a115 F116; clear F114
   refine wpl_op (i := 16) rfl (o_skip F116 rfl (unwanted_undef rfl rfl rfl F116 rfl) rfl rfl ?_)
   intro a117 F118; clear F116
   refine qu 17 F118 (decide_eq_true hc102) fun _ F120 => ?_; clear F118
   refine qv 18 (.bool true) F120 rfl (rn_pickT (c_true F120 rfl (decide_eq_true hc102)) rfl) fun _ F122 => ?_; clear F120
   refine qv 19 (.bool true) F122 rfl (rn_move (F122.get rfl)) fun _ F124 => ?_; clear F122
   refine qu 20 F124 rfl fun _ F126 => ?_; clear F124
   refine qu 21 F126 rfl fun _ F128 => ?_; clear F126
   refine qu 22 F128 rfl fun _ F130 => ?_; clear F128
   refine qu 23 F130 rfl fun _ F132 => ?_; clear F130
   refine qu 24 F132 rfl fun _ F134 => ?_; clear F132
   refine qu 25 F134 rfl fun _ F136 => ?_; clear F134
   refine wpl_op (i := 26) rfl (o_skip F136 rfl (unwanted_undef rfl rfl rfl F136 rfl) rfl rfl ?_)
   intro a137 F138; clear F136
   refine wpl_op (i := 27) rfl (o_skip F138 rfl (unwanted_undef rfl rfl rfl F138 rfl) rfl rfl ?_)
   intro a139 F140; clear F138
   refine qu 28 F140 rfl fun _ F142 => ?_; clear F140
   refine qv 29 (.bool true) F142 rfl (rn_pickT (c_true F142 rfl rfl) rfl) fun _ F144 => ?_; clear F142
   refine wpList_nil ?_
   refine hK21 _ _ ?_
   clear hK21
   have F145 := (((((F144.nil.c F144 40 rfl).c F144 5 rfl).c F144 4 rfl).c F144 1 rfl).c F144 0 rfl)
   clear F144
   refine wp_cond_true (c_true F145 rfl rfl) ?_
   refine wp_seq_k (fun K146 hK146 => ?_)
   refine wp_region_lit ?_
   refine qv 0 (.bool false) F145 rfl (rn_assign rfl) fun _ F148 => ?_; clear F145
   refine wpList_nil ?_
   refine hK146 _ _ ?_
   clear hK146
   refine wp_ret ?_
   refine ret_then ?_
   refine ret1 F148 rfl rfl ?_
   exact ⟨by rw [goodS_bad (show ¬ kindOk (s.getD 11 0).toNat (s.getD 10 0) by unfold kindOk; omega)], (Ext.refl w)⟩
  ·skip
   refine qg 9 (.slice A s.length c) F101 (decide_eq_false hc102) (rn_move (F101.get rfl)) fun _ F150 => ?_; clear F101
   refine qg 10 (.pointer (some ⟨b7, o8 + 10, none⟩)) F150 (decide_eq_false hc102) (rn_index1 Try.underlying35 inf5 ((F150.get rfl).trans (by rw [hA9])) rfl (by omega : (0 : Int) ≤ 10) (by omega : (10 : Int) < ((s.length : Nat) : Int))) fun _ F152 => ?_; clear F150
   refine qg 11 (.int .u8 ((s.getD 10 0).toNat : Nat)) F152 (decide_eq_false hc102) (rn_load (isAgg_no Try.underlying5 rfl) (F152.get rfl) (Fl.cellAt hc hA9 (byteVals_at (i := 10) (by omega)))) fun _ F154 => ?_; clear F152
   refine qg 12 (.int .u8 (((s.getD 10 0) &&& (2 : UInt8)).toNat : Nat)) F154 (decide_eq_false hc102) (rn_and8 (a := (s.getD 10 0)) (b := (2 : UInt8)) (F154.get rfl) rfl) fun _ F156 => ?_; clear F154
   refine qg 13 (.bool (decide (((((s.getD 10 0) &&& (2 : UInt8)).toNat : Nat) : Int) = (0 : Int)))) F156 (decide_eq_false hc102) (rn_eql (F156.get rfl) rfl) fun _ F158 => ?_; clear F156
   refine qg 14 (.bool (decide (((((s.getD 10 0) &&& (2 : UInt8)).toNat : Nat) : Int) = (0 : Int)))) F158 (decide_eq_false hc102) (rn_move (F158.get rfl)) fun _ F160 => ?_; clear F158
   by_cases hc161 : ((((s.getD 10 0) &&& (2 : UInt8)).toNat : Nat) : Int) = (0 : Int)
   ·skip
    refine qg 15 (.int .i64 ((s.getD 11 0).toNat : Nat)) F160 (decide_eq_true hc161) (rn_move (F160.get rfl)) fun _ F163 => ?_; clear F160
    refine qg 16 (.bool (decide ((((s.getD 11 0).toNat : Nat) : Int) < (112 : Int)))) F163 (decide_eq_true hc161) (rn_lss (F163.get rfl) rfl) fun _ F165 => ?_; clear F163
    refine qg 17 (.bool (decide ((((s.getD 11 0).toNat : Nat) : Int) < (112 : Int)))) F165 (decide_eq_false hc102) (rn_pickT (c_true F165 rfl (decide_eq_true hc161)) (F165.get rfl)) fun _ F167 => ?_; clear F165
    refine qv 18 (.bool (decide ((((s.getD 11 0).toNat : Nat) : Int) < (112 : Int)))) F167 rfl (rn_pickF (c_false F167 rfl (decide_eq_false hc102)) (F167.get rfl)) fun _ F169 => ?_; clear F167
    refine qv 19 (.bool (decide ((((s.getD 11 0).toNat : Nat) : Int) < (112 : Int)))) F169 rfl (rn_move (F169.get rfl)) fun _ F171 => ?_; clear F169
    by_cases hc172 : (((s.getD 11 0).toNat : Nat) : Int) < (112 : Int)
    ·skip
     refine qu 20 F171 (decide_eq_true hc172) fun _ F174 => ?_; clear F171
     refine qu 21 F174 (decide_eq_true hc172) fun _ F176 => ?_; clear F174
     refine qu 22 F176 (decide_eq_true hc172) fun _ F178 => ?_; clear F176
     refine qu 23 F178 (decide_eq_true hc172) fun _ F180 => ?_; clear F178
     refine qu 24 F180 (decide_eq_true hc172) fun _ F182 => ?_; clear F180
     refine qu 25 F182 (decide_eq_true hc172) fun _ F184 => ?_; clear F182
     refine wpl_op (i := 26) rfl (o_skip F184 rfl (unwanted_undef rfl rfl rfl F184 rfl) rfl rfl ?_)
     intro a185 F186; clear F184
     refine wpl_op (i := 27) rfl (o_skip F186 rfl (unwanted_undef rfl rfl rfl F186 rfl) rfl rfl ?_)
     intro a187 F188; clear F186
     refine qu 28 F188 (decide_eq_true hc172) fun _ F190 => ?_; clear F188
     refine qv 29 (.bool true) F190 rfl (rn_pickT (c_true F190 rfl (decide_eq_true hc172)) rfl) fun _ F192 => ?_; clear F190
     refine wpList_nil ?_
     refine hK21 _ _ ?_
     clear hK21
     have F193 := (((((F192.nil.c F192 40 rfl).c F192 5 rfl).c F192 4 rfl).c F192 1 rfl).c F192 0 rfl)
     clear F192
     refine wp_cond_true (c_true F193 rfl rfl) ?_
     refine wp_seq_k (fun K194 hK194 => ?_)
     refine wp_region_lit ?_
     refine qv 0 (.bool false) F193 rfl (rn_assign rfl) fun _ F196 => ?_; clear F193
     refine wpList_nil ?_
     refine hK194 _ _ ?_
     clear hK194
     refine wp_ret ?_
     refine ret_then ?_
     refine ret1 F196 rfl rfl ?_
     exact ⟨by rw [goodS_bad (show ¬ kindOk (s.getD 11 0).toNat (s.getD 10 0) by unfold kindOk; omega)], (Ext.refl w)⟩
    ·skip
     refine qg 20 (.slice A s.length c) F171 (decide_eq_false hc172) (rn_move (F171.get rfl)) fun _ F198 => ?_; clear F171
     refine qg 21 (.pointer (some ⟨b7, o8 + 10, none⟩)) F198 (decide_eq_false hc172) (rn_index1 Try.underlying35 inf5 ((F198.get rfl).trans (by rw [hA9])) rfl (by omega : (0 : Int) ≤ 10) (by omega : (10 : Int) < ((s.length : Nat) : Int))) fun _ F200 => ?_; clear F198
     refine qg 22 (.int .u8 ((s.getD 10 0).toNat : Nat)) F200 (decide_eq_false hc172) (rn_load (isAgg_no Try.underlying5 rfl) (F200.get rfl) (Fl.cellAt hc hA9 (byteVals_at (i := 10) (by omega)))) fun _ F202 => ?_; clear F200
     refine qg 23 (.int .u8 (((s.getD 10 0) &&& (1 : UInt8)).toNat : Nat)) F202 (decide_eq_false hc172) (rn_and8 (a := (s.getD 10 0)) (b := (1 : UInt8)) (F202.get rfl) rfl) fun _ F204 => ?_; clear F202
     refine qg 24 (.bool (decide (((((s.getD 10 0) &&& (1 : UInt8)).toNat : Nat) : Int) = (0 : Int)))) F204 (decide_eq_false hc172) (rn_eql (F204.get rfl) rfl) fun _ F206 => ?_; clear F204
     refine qg 25 (.bool (decide (((((s.getD 10 0) &&& (1 : UInt8)).toNat : Nat) : Int) = (0 : Int)))) F206 (decide_eq_false hc172) (rn_move (F206.get rfl)) fun _ F208 => ?_; clear F206
     by_cases hc209 : ((((s.getD 10 0) &&& (1 : UInt8)).toNat : Nat) : Int) = (0 : Int)
     ·skip
      refine qg 26 (.int .i64 ((s.getD 11 0).toNat : Nat)) F208 (decide_eq_true hc209) (rn_move (F208.get rfl)) fun _ F211 => ?_; clear F208
      refine qg 27 (.bool (decide ((((s.getD 11 0).toNat : Nat) : Int) = (0 : Int)))) F211 (decide_eq_true hc209) (rn_eql (F211.get rfl) rfl) fun _ F213 => ?_; clear F211
      refine qg 28 (.bool (decide ((((s.getD 11 0).toNat : Nat) : Int) = (0 : Int)))) F213 (decide_eq_false hc172) (rn_pickT (c_true F213 rfl (decide_eq_true hc209)) (F213.get rfl)) fun _ F215 => ?_; clear F213
      refine qv 29 (.bool (decide ((((s.getD 11 0).toNat : Nat) : Int) = (0 : Int)))) F215 rfl (rn_pickF (c_false F215 rfl (decide_eq_false hc172)) (F215.get rfl)) fun _ F217 => ?_; clear F215
      refine wpList_nil ?_
      refine hK21 _ _ ?_
      clear hK21
      have F218 := (((((F217.nil.c F217 40 rfl).c F217 5 rfl).c F217 4 rfl).c F217 1 rfl).c F217 0 rfl)
      clear F217
      by_cases hc219 : (((s.getD 11 0).toNat : Nat) : Int) = (0 : Int)
      ·skip
       refine wp_cond_true (c_true F218 rfl (decide_eq_true hc219)) ?_
       refine wp_seq_k (fun K220 hK220 => ?_)
       refine wp_region_lit ?_
       refine qv 0 (.bool false) F218 rfl (rn_assign rfl) fun _ F222 => ?_; clear F218
       refine wpList_nil ?_
       refine hK220 _ _ ?_
       clear hK220
       refine wp_ret ?_
       refine ret_then ?_
       refine ret1 F222 rfl rfl ?_
       exact ⟨by rw [goodS_bad (show ¬ kindOk (s.getD 11 0).toNat (s.getD 10 0) by unfold kindOk; omega)], (Ext.refl w)⟩
      ·skip
       refine wp_cond_false (c_false F218 rfl (decide_eq_false hc219)) ?_
       refine wp_skip ?_
       refine hK20 _ _ ?_
       clear hK20
       refine wp_seq_k (fun K223 hK223 => ?_)
       refine wp_region_lit ?_
       refine qv 0 (.slice A s.length c) F218 rfl (rn_move (F218.get rfl)) fun _ F225 => ?_; clear F218
       refine qv 1 (.slice A 4 c) F225 rfl (rn_sliceHi Try.underlying35 inf5 (F225.get rfl) rfl (by omega : (0 : Int) ≤ 4) (by omega : (4 : Int) ≤ ((c : Nat) : Int))) fun _ F227 => ?_; clear F225
       have hf228 := (Fl.take_eq (j := 4) hc (by omega) (byteVals_take1 _ _))
       have z229 := num_lt4 (l := s.take 4) (by have := Fl.blen hf228; omega)
       refine wpl_op (i := 2) rfl (o_call F227 rfl rfl rfl rfl (rn_call (args1 (F227.get rfl)) rfl (by kernel_rfl)) (get_at (v := (.slice A 4 c)) (m := 4) (s.take 4) _ hf228 (by omega)) ?_)
       rintro _ w230 ⟨rfl, hx231⟩
       refine ⟨_, rfl, ?_⟩; intro a232 F233; clear F227; have z234 := hx231.size
       refine qv 3 (.int .u64 (num (s.take 4) : Nat)) F233 rfl (rn_assign (F233.get rfl)) fun _ F236 => ?_; clear F233
       refine wpList_nil ?_
       refine hK223 _ _ ?_
       clear hK223
       refine wp_seq_k (fun K237 hK237 => ?_)
       have hx239 : ∃ W, w230.drew = W ∧ Ext w230 W := ⟨_, rfl, (Ext.refl _).drew⟩
       obtain ⟨w238, e240, hx239⟩ := hx239
       have z241 := hx239.size
       refine any_start (fun W => Ext w238 W) (fun i => false) 17 #[false, false, false, false, false, false, false, false, false, false, false, false, false, false, false, false, false] rfl rfl rfl ?_
       rw [e240]; clear e240
       refine qp 0 (.int .u64 (num (s.take 4) : Nat)) F236 rfl rfl (fun W => (rn_move (F236.get rfl))) fun _ F243 => ?_; clear F236
       refine qp 1 (.bool (decide ((0 : Int) < ((num (s.take 4) : Nat) : Int)))) F243 rfl rfl (fun W => (rn_gtr (F243.get rfl) rfl)) fun _ F245 => ?_; clear F243
       refine qp 2 (.bool (decide ((0 : Int) < ((num (s.take 4) : Nat) : Int)))) F245 rfl rfl (fun W => (rn_move (F245.get rfl))) fun _ F247 => ?_; clear F245
       by_cases hc248 : (0 : Int) < ((num (s.take 4) : Nat) : Int)
       ·skip
        refine qp 3 (.slice A s.length c) F247 rfl (wanted_guard rfl rfl rfl F247 rfl (decide_eq_true hc248) rfl) (fun W => (rn_move (F247.get rfl))) fun _ F250 => ?_; clear F247
        refine qp 4 (.int .u64 (num (s.take 4) : Nat)) F250 rfl (wanted_guard rfl rfl rfl F250 rfl (decide_eq_true hc248) rfl) (fun W => (rn_move (F250.get rfl))) fun _ F252 => ?_; clear F250
        refine qp 5 (.int .i64 (k : Nat)) F252 rfl (wanted_guard rfl rfl rfl F252 rfl (decide_eq_true hc248) rfl) (fun W => (rn_move (F252.get rfl))) fun _ F254 => ?_; clear F252
        refine qp 6 (.slice A s.length c) F254 rfl (wanted_guard rfl rfl rfl F254 rfl (decide_eq_true hc248) rfl) (fun W => (rn_move (F254.get rfl))) fun _ F256 => ?_; clear F254
        refine qp 7 (.pointer (some ⟨b7, o8 + 10, none⟩)) F256 rfl (wanted_guard rfl rfl rfl F256 rfl (decide_eq_true hc248) rfl) (fun W => (rn_index1 Try.underlying35 inf5 ((F256.get rfl).trans (by rw [hA9])) rfl (by omega : (0 : Int) ≤ 10) (by omega : (10 : Int) < ((s.length : Nat) : Int)))) fun _ F258 => ?_; clear F256
        have hS259 : Ext w238 w238 := (Ext.refl w238)
        have d260 := ((hc.ext hx231).ext hx239)
        refine qs 8 (.int .u8 ((s.getD 10 0).toNat : Nat)) F258 rfl (wanted_guard rfl rfl rfl F258 rfl (decide_eq_true hc248) rfl) hS259 (fun W hW => (rn_load (isAgg_no Try.underlying5 rfl) (F258.get rfl) (Fl.cellAt (d260.ext hW) hA9 (byteVals_at (i := 10) (by omega))))) fun _ F262 => ?_; clear F258
        refine qp 9 (.slice A s.length c) F262 rfl (wanted_guard rfl rfl rfl F262 rfl (decide_eq_true hc248) rfl) (fun W => (rn_move (F262.get rfl))) fun _ F264 => ?_; clear F262
        refine qp 10 (.int .i64 ((s.getD 11 0).toNat : Nat)) F264 rfl (wanted_guard rfl rfl rfl F264 rfl (decide_eq_true hc248) rfl) (fun W => (rn_move (F264.get rfl))) fun _ F266 => ?_; clear F264
        refine qp 11 (.int .i64 (12 + ((s.getD 11 0).toNat) : Nat)) F266 rfl (wanted_guard rfl rfl rfl F266 rfl (decide_eq_true hc248) rfl) (fun W => (rn_addN (a := 12) (b := (s.getD 11 0).toNat) rfl (F266.get rfl) (by omega))) fun _ F268 => ?_; clear F266
        refine qp 12 (.slice (some ⟨b7, o8 + 12 * 1, none⟩) ((s.getD 11 0).toNat) (c - 12)) F268 rfl (wanted_guard rfl rfl rfl F268 rfl (decide_eq_true hc248) rfl) (fun W => (rn_sliceLH (l := 12) (h := (12 + ((s.getD 11 0).toNat))) Try.underlying35 inf5 ((F268.get rfl).trans (by rw [hA9])) rfl (F268.get rfl) (by omega) (by omega) (by omega) (by omega))) fun _ F270 => ?_; clear F268
        refine any_one (i := 13) (by decide +kernel) rfl ?_
        have hf274 := (Fl.mid_eq (j := 12) (m' := (s.getD 11 0).toNat) d260 hA9 (by omega) (by omega) (byteVals_mid _ _ _))
        refine o_call F270 rfl (wanted_guard rfl rfl rfl F270 rfl (decide_eq_true hc248) rfl) rfl rfl (rn_call (args4 (F270.get rfl) (F270.get rfl) (F270.get rfl) (F270.get rfl)) rfl (by kernel_rfl)) (encode_at (v := (.slice (some ⟨b7, o8 + 12 * 1, none⟩) ((s.getD 11 0).toNat) (c - 12))) (m := (s.getD 11 0).toNat) (num (s.take 4)) k (s.getD 10 0) ((s.drop 12).take ((s.getD 11 0).toNat)) _ (Fl.mid_eq (j := 12) (m' := (s.getD 11 0).toNat) d260 hA9 (by omega) (by omega) (byteVals_mid _ _ _)) (by omega) (by omega) (by omega)) ?_
        rintro _ w275 ⟨g271, z272, rfl, b273, hx276⟩
        refine ⟨_, rfl, ?_⟩; intro a277 F278; clear F270; have z279 := hx276.size
        have z280 := b273.lt
        refine ⟨fun _ _ => ((Ext.refl w238).trans hx276), ?_⟩
        refine any_one (i := 14) (by decide +kernel) rfl ?_
        have d281 := (((hc.ext hx231).ext hx239).ext hx276)
        refine o_call F278 rfl (wanted_guard rfl rfl rfl F278 rfl (decide_eq_true hc248) rfl) rfl rfl (rn_call (args2 (F278.get rfl) (F278.get rfl)) rfl (by kernel_rfl)) (beq_at (v := (.slice A s.length c)) (u := (.slice (some ⟨g271, 0, none⟩) 128 128)) (n := s.length) (m := 128) s (encL (num (s.take 4)) k (s.getD 10 0) ((s.drop 12).take ((s.getD 11 0).toNat))) _ d281 (Fl.blk (S := fun b => b = g271) (k := 1) (n := 128) (c := 128) b273 (by rw [byteVals_len (encL_len (by have := Fl.blen hf274; omega)), Nat.mul_one]) (byteVals_one _) (by omega) rfl)) ?_
        rintro _ w282 ⟨rfl, hx283⟩
        refine ⟨_, rfl, ?_⟩; intro a284 F285; clear F278; have z286 := hx283.size
        refine ⟨fun _ _ => (((Ext.refl w238).trans hx276).trans hx283), ?_⟩
        refine qp 15 (.bool (decide (s = encL (num (s.take 4)) k (s.getD 10 0) ((s.drop 12).take ((s.getD 11 0).toNat))))) F285 rfl rfl (fun W => (rn_pickT (c_true F285 rfl (decide_eq_true hc248)) (F285.get rfl))) fun _ F288 => ?_; clear F285
        refine qp 16 (.bool (decide (s = encL (num (s.take 4)) k (s.getD 10 0) ((s.drop 12).take ((s.getD 11 0).toNat))))) F288 rfl rfl (fun W => (rn_assign (F288.get rfl))) fun _ F290 => ?_; clear F288
        refine any_nil (by decide +kernel) ?_
        refine hK237 _ _ ?_
        clear hK237
        have F291 := ((((((F290.nil.c F290 6 rfl).c F290 40 rfl).c F290 5 rfl).c F290 4 rfl).c F290 1 rfl).c F290 0 rfl)
        clear F290
        refine wp_ret ?_
        refine ret1 F291 rfl rfl ?_
        exact ⟨congrArg (fun b => Ending.returned (.bool b)) (show (decide (s = encL (num (s.take 4)) k (s.getD 10 0) ((s.drop 12).take ((s.getD 11 0).toNat)))) = goodS s k from (goodS_eq (by show kindOk (s.getD 11 0).toNat (s.getD 10 0); unfold kindOk; omega) (by show 0 < num (s.take 4); omega)).symm), (((((Ext.refl w).trans hx231).trans hx239).trans hx276).trans hx283)⟩
       ·skip
        refine qk 3 F247 rfl (decide_eq_false hc248) fun _ F293 => ?_; clear F247
        refine qk 4 F293 rfl (decide_eq_false hc248) fun _ F295 => ?_; clear F293
        refine qk 5 F295 rfl (decide_eq_false hc248) fun _ F297 => ?_; clear F295
        refine qk 6 F297 rfl (decide_eq_false hc248) fun _ F299 => ?_; clear F297
        refine qk 7 F299 rfl (decide_eq_false hc248) fun _ F301 => ?_; clear F299
        refine qk 8 F301 rfl (decide_eq_false hc248) fun _ F303 => ?_; clear F301
        refine qk 9 F303 rfl (decide_eq_false hc248) fun _ F305 => ?_; clear F303
        refine qk 10 F305 rfl (decide_eq_false hc248) fun _ F307 => ?_; clear F305
        refine qk 11 F307 rfl (decide_eq_false hc248) fun _ F309 => ?_; clear F307
        refine qk 12 F309 rfl (decide_eq_false hc248) fun _ F311 => ?_; clear F309
        refine any_one (i := 13) (by decide +kernel) rfl ?_
        refine o_skip F311 rfl (unwanted_guard rfl rfl rfl F311 rfl (decide_eq_false hc248) rfl) rfl rfl ?_
        intro a312 F313; clear F311
        refine ⟨fun _ _ => (Ext.refl w238), ?_⟩
        refine any_one (i := 14) (by decide +kernel) rfl ?_
        refine o_skip F313 rfl (unwanted_guard rfl rfl rfl F313 rfl (decide_eq_false hc248) rfl) rfl rfl ?_
        intro a314 F315; clear F313
        refine ⟨fun _ _ => (Ext.refl w238), ?_⟩
        refine qp 15 (.bool false) F315 rfl rfl (fun W => (rn_pickF (c_false F315 rfl (decide_eq_false hc248)) rfl)) fun _ F317 => ?_; clear F315
        refine qp 16 (.bool false) F317 rfl rfl (fun W => (rn_assign (F317.get rfl))) fun _ F319 => ?_; clear F317
        refine any_nil (by decide +kernel) ?_
        refine hK237 _ _ ?_
        clear hK237
        have F320 := ((((((F319.nil.c F319 6 rfl).c F319 40 rfl).c F319 5 rfl).c F319 4 rfl).c F319 1 rfl).c F319 0 rfl)
        clear F319
        refine wp_ret ?_
        refine ret1 F320 rfl rfl ?_
        exact ⟨by rw [goodS_zero (show num (s.take 4) = 0 by omega)], (((Ext.refl w).trans hx231).trans hx239)⟩
     ·skip
      refine qu 26 F208 (decide_eq_false hc209) fun _ F322 => ?_; clear F208
      refine qu 27 F322 (decide_eq_false hc209) fun _ F324 => ?_; clear F322
      refine qg 28 (.bool false) F324 (decide_eq_false hc172) (rn_pickF (c_false F324 rfl (decide_eq_false hc209)) rfl) fun _ F326 => ?_; clear F324
      refine qv 29 (.bool false) F326 rfl (rn_pickF (c_false F326 rfl (decide_eq_false hc172)) (F326.get rfl)) fun _ F328 => ?_; clear F326
      refine wpList_nil ?_
      refine hK21 _ _ ?_
      clear hK21
      have F329 := (((((F328.nil.c F328 40 rfl).c F328 5 rfl).c F328 4 rfl).c F328 1 rfl).c F328 0 rfl)
      clear F328
      refine wp_cond_false (c_false F329 rfl rfl) ?_
      refine wp_skip ?_
      refine hK20 _ _ ?_
      clear hK20
      refine wp_seq_k (fun K330 hK330 => ?_)
      refine wp_region_lit ?_
      refine qv 0 (.slice A s.length c) F329 rfl (rn_move (F329.get rfl)) fun _ F332 => ?_; clear F329
      refine qv 1 (.slice A 4 c) F332 rfl (rn_sliceHi Try.underlying35 inf5 (F332.get rfl) rfl (by omega : (0 : Int) ≤ 4) (by omega : (4 : Int) ≤ ((c : Nat) : Int))) fun _ F334 => ?_; clear F332
      have hf335 := (Fl.take_eq (j := 4) hc (by omega) (byteVals_take1 _ _))
      have z336 := num_lt4 (l := s.take 4) (by have := Fl.blen hf335; omega)
      refine wpl_op (i := 2) rfl (o_call F334 rfl rfl rfl rfl (rn_call (args1 (F334.get rfl)) rfl (by kernel_rfl)) (get_at (v := (.slice A 4 c)) (m := 4) (s.take 4) _ hf335 (by omega)) ?_)
      rintro _ w337 ⟨rfl, hx338⟩
      refine ⟨_, rfl, ?_⟩; intro a339 F340; clear F334; have z341 := hx338.size
      refine qv 3 (.int .u64 (num (s.take 4) : Nat)) F340 rfl (rn_assign (F340.get rfl)) fun _ F343 => ?_; clear F340
      refine wpList_nil ?_
      refine hK330 _ _ ?_
      clear hK330
      refine wp_seq_k (fun K344 hK344 => ?_)
      have hx346 : ∃ W, w337.drew = W ∧ Ext w337 W := ⟨_, rfl, (Ext.refl _).drew⟩
      obtain ⟨w345, e347, hx346⟩ := hx346
      have z348 := hx346.size
      refine any_start (fun W => Ext w345 W) (fun i => false) 17 #[false, false, false, false, false, false, false, false, false, false, false, false, false, false, false, false, false] rfl rfl rfl ?_
      rw [e347]; clear e347
      refine qp 0 (.int .u64 (num (s.take 4) : Nat)) F343 rfl rfl (fun W => (rn_move (F343.get rfl))) fun _ F350 => ?_; clear F343
      refine qp 1 (.bool (decide ((0 : Int) < ((num (s.take 4) : Nat) : Int)))) F350 rfl rfl (fun W => (rn_gtr (F350.get rfl) rfl)) fun _ F352 => ?_; clear F350
      refine qp 2 (.bool (decide ((0 : Int) < ((num (s.take 4) : Nat) : Int)))) F352 rfl rfl (fun W => (rn_move (F352.get rfl))) fun _ F354 => ?_; clear F352
      by_cases hc355 : (0 : Int) < ((num (s.take 4) : Nat) : Int)
      ·skip
       refine qp 3 (.slice A s.length c) F354 rfl (wanted_guard rfl rfl rfl F354 rfl (decide_eq_true hc355) rfl) (fun W => (rn_move (F354.get rfl))) fun _ F357 => ?_; clear F354
       refine qp 4 (.int .u64 (num (s.take 4) : Nat)) F357 rfl (wanted_guard rfl rfl rfl F357 rfl (decide_eq_true hc355) rfl) (fun W => (rn_move (F357.get rfl))) fun _ F359 => ?_; clear F357
       refine qp 5 (.int .i64 (k : Nat)) F359 rfl (wanted_guard rfl rfl rfl F359 rfl (decide_eq_true hc355) rfl) (fun W => (rn_move (F359.get rfl))) fun _ F361 => ?_; clear F359
       refine qp 6 (.slice A s.length c) F361 rfl (wanted_guard rfl rfl rfl F361 rfl (decide_eq_true hc355) rfl) (fun W => (rn_move (F361.get rfl))) fun _ F363 => ?_; clear F361
       refine qp 7 (.pointer (some ⟨b7, o8 + 10, none⟩)) F363 rfl (wanted_guard rfl rfl rfl F363 rfl (decide_eq_true hc355) rfl) (fun W => (rn_index1 Try.underlying35 inf5 ((F363.get rfl).trans (by rw [hA9])) rfl (by omega : (0 : Int) ≤ 10) (by omega : (10 : Int) < ((s.length : Nat) : Int)))) fun _ F365 => ?_; clear F363
       have hS366 : Ext w345 w345 := (Ext.refl w345)
       have d367 := ((hc.ext hx338).ext hx346)
       refine qs 8 (.int .u8 ((s.getD 10 0).toNat : Nat)) F365 rfl (wanted_guard rfl rfl rfl F365 rfl (decide_eq_true hc355) rfl) hS366 (fun W hW => (rn_load (isAgg_no Try.underlying5 rfl) (F365.get rfl) (Fl.cellAt (d367.ext hW) hA9 (byteVals_at (i := 10) (by omega))))) fun _ F369 => ?_; clear F365
       refine qp 9 (.slice A s.length c) F369 rfl (wanted_guard rfl rfl rfl F369 rfl (decide_eq_true hc355) rfl) (fun W => (rn_move (F369.get rfl))) fun _ F371 => ?_; clear F369
       refine qp 10 (.int .i64 ((s.getD 11 0).toNat : Nat)) F371 rfl (wanted_guard rfl rfl rfl F371 rfl (decide_eq_true hc355) rfl) (fun W => (rn_move (F371.get rfl))) fun _ F373 => ?_; clear F371
       refine qp 11 (.int .i64 (12 + ((s.getD 11 0).toNat) : Nat)) F373 rfl (wanted_guard rfl rfl rfl F373 rfl (decide_eq_true hc355) rfl) (fun W => (rn_addN (a := 12) (b := (s.getD 11 0).toNat) rfl (F373.get rfl) (by omega))) fun _ F375 => ?_; clear F373
       refine qp 12 (.slice (some ⟨b7, o8 + 12 * 1, none⟩) ((s.getD 11 0).toNat) (c - 12)) F375 rfl (wanted_guard rfl rfl rfl F375 rfl (decide_eq_true hc355) rfl) (fun W => (rn_sliceLH (l := 12) (h := (12 + ((s.getD 11 0).toNat))) Try.underlying35 inf5 ((F375.get rfl).trans (by rw [hA9])) rfl (F375.get rfl) (by omega) (by omega) (by omega) (by omega))) fun _ F377 => ?_; clear F375
       refine any_one (i := 13) (by decide +kernel) rfl ?_
       have hf381 := (Fl.mid_eq (j := 12) (m' := (s.getD 11 0).toNat) d367 hA9 (by omega) (by omega) (byteVals_mid _ _ _))
       refine o_call F377 rfl (wanted_guard rfl rfl rfl F377 rfl (decide_eq_true hc355) rfl) rfl rfl (rn_call (args4 (F377.get rfl) (F377.get rfl) (F377.get rfl) (F377.get rfl)) rfl (by kernel_rfl)) (encode_at (v := (.slice (some ⟨b7, o8 + 12 * 1, none⟩) ((s.getD 11 0).toNat) (c - 12))) (m := (s.getD 11 0).toNat) (num (s.take 4)) k (s.getD 10 0) ((s.drop 12).take ((s.getD 11 0).toNat)) _ (Fl.mid_eq (j := 12) (m' := (s.getD 11 0).toNat) d367 hA9 (by omega) (by omega) (byteVals_mid _ _ _)) (by omega) (by omega) (by omega)) ?_
       rintro _ w382 ⟨g378, z379, rfl, b380, hx383⟩
       refine ⟨_, rfl, ?_⟩; intro a384 F385; clear F377; have z386 := hx383.size
       have z387 := b380.lt
       refine ⟨fun _ _ => ((Ext.refl w345).trans hx383), ?_⟩
       refine any_one (i := 14) (by decide +kernel) rfl ?_
       have d388 := (((hc.ext hx338).ext hx346).ext hx383)
       refine o_call F385 rfl (wanted_guard rfl rfl rfl F385 rfl (decide_eq_true hc355) rfl) rfl rfl (rn_call (args2 (F385.get rfl) (F385.get rfl)) rfl (by kernel_rfl)) (beq_at (v := (.slice A s.length c)) (u := (.slice (some ⟨g378, 0, none⟩) 128 128)) (n := s.length) (m := 128) s (encL (num (s.take 4)) k (s.getD 10 0) ((s.drop 12).take ((s.getD 11 0).toNat))) _ d388 (Fl.blk (S := fun b => b = g378) (k := 1) (n := 128) (c := 128) b380 (by rw [byteVals_len (encL_len (by have := Fl.blen hf381; omega)), Nat.mul_one]) (byteVals_one _) (by omega) rfl)) ?_
       rintro _ w389 ⟨rfl, hx390⟩
       refine ⟨_, rfl, ?_⟩; intro a391 F392; clear F385; have z393 := hx390.size
       refine ⟨fun _ _ => (((Ext.refl w345).trans hx383).trans hx390), ?_⟩
       refine qp 15 (.bool (decide (s = encL (num (s.take 4)) k (s.getD 10 0) ((s.drop 12).take ((s.getD 11 0).toNat))))) F392 rfl rfl (fun W => (rn_pickT (c_true F392 rfl (decide_eq_true hc355)) (F392.get rfl))) fun _ F395 => ?_; clear F392
       refine qp 16 (.bool (decide (s = encL (num (s.take 4)) k (s.getD 10 0) ((s.drop 12).take ((s.getD 11 0).toNat))))) F395 rfl rfl (fun W => (rn_assign (F395.get rfl))) fun _ F397 => ?_; clear F395
       refine any_nil (by decide +kernel) ?_
       refine hK344 _ _ ?_
       clear hK344
       have F398 := ((((((F397.nil.c F397 6 rfl).c F397 40 rfl).c F397 5 rfl).c F397 4 rfl).c F397 1 rfl).c F397 0 rfl)
       clear F397
       refine wp_ret ?_
       refine ret1 F398 rfl rfl ?_
       exact ⟨congrArg (fun b => Ending.returned (.bool b)) (show (decide (s = encL (num (s.take 4)) k (s.getD 10 0) ((s.drop 12).take ((s.getD 11 0).toNat)))) = goodS s k from (goodS_eq (by show kindOk (s.getD 11 0).toNat (s.getD 10 0); unfold kindOk; omega) (by show 0 < num (s.take 4); omega)).symm), (((((Ext.refl w).trans hx338).trans hx346).trans hx383).trans hx390)⟩
      ·skip
       refine qk 3 F354 rfl (decide_eq_false hc355) fun _ F400 => ?_; clear F354
       refine qk 4 F400 rfl (decide_eq_false hc355) fun _ F402 => ?_; clear F400
       refine qk 5 F402 rfl (decide_eq_false hc355) fun _ F404 => ?_; clear F402
       refine qk 6 F404 rfl (decide_eq_false hc355) fun _ F406 => ?_; clear F404
       refine qk 7 F406 rfl (decide_eq_false hc355) fun _ F408 => ?_; clear F406
       refine qk 8 F408 rfl (decide_eq_false hc355) fun _ F410 => ?_; clear F408
       refine qk 9 F410 rfl (decide_eq_false hc355) fun _ F412 => ?_; clear F410
       refine qk 10 F412 rfl (decide_eq_false hc355) fun _ F414 => ?_; clear F412
       refine qk 11 F414 rfl (decide_eq_false hc355) fun _ F416 => ?_; clear F414
       refine qk 12 F416 rfl (decide_eq_false hc355) fun _ F418 => ?_; clear F416
       refine any_one (i := 13) (by decide +kernel) rfl ?_
       refine o_skip F418 rfl (unwanted_guard rfl rfl rfl F418 rfl (decide_eq_false hc355) rfl) rfl rfl ?_
       intro a419 F420; clear F418
       refine ⟨fun _ _ => (Ext.refl w345), ?_⟩
       refine any_one (i := 14) (by decide +kernel) rfl ?_
       refine o_skip F420 rfl (unwanted_guard rfl rfl rfl F420 rfl (decide_eq_false hc355) rfl) rfl rfl ?_
       intro a421 F422; clear F420
       refine ⟨fun _ _ => (Ext.refl w345), ?_⟩
       refine qp 15 (.bool false) F422 rfl rfl (fun W => (rn_pickF (c_false F422 rfl (decide_eq_false hc355)) rfl)) fun _ F424 => ?_; clear F422
       refine qp 16 (.bool false) F424 rfl rfl (fun W => (rn_assign (F424.get rfl))) fun _ F426 => ?_; clear F424
       refine any_nil (by decide +kernel) ?_
       refine hK344 _ _ ?_
       clear hK344
       have F427 := ((((((F426.nil.c F426 6 rfl).c F426 40 rfl).c F426 5 rfl).c F426 4 rfl).c F426 1 rfl).c F426 0 rfl)
       clear F426
       refine wp_ret ?_
       refine ret1 F427 rfl rfl ?_
       exact ⟨by rw [goodS_zero (show num (s.take 4) = 0 by omega)], (((Ext.refl w).trans hx338).trans hx346)⟩
   ·skip
    refine qu 15 F160 (decide_eq_false hc161) fun _ F429 => ?_; clear F160
    refine qu 16 F429 (decide_eq_false hc161) fun _ F431 => ?_; clear F429
    refine qg 17 (.bool false) F431 (decide_eq_false hc102) (rn_pickF (c_false F431 rfl (decide_eq_false hc161)) rfl) fun _ F433 => ?_; clear F431
    refine qv 18 (.bool false) F433 rfl (rn_pickF (c_false F433 rfl (decide_eq_false hc102)) (F433.get rfl)) fun _ F435 => ?_; clear F433
    refine qv 19 (.bool false) F435 rfl (rn_move (F435.get rfl)) fun _ F437 => ?_; clear F435
    refine qg 20 (.slice A s.length c) F437 rfl (rn_move (F437.get rfl)) fun _ F439 => ?_; clear F437
    refine qg 21 (.pointer (some ⟨b7, o8 + 10, none⟩)) F439 rfl (rn_index1 Try.underlying35 inf5 ((F439.get rfl).trans (by rw [hA9])) rfl (by omega : (0 : Int) ≤ 10) (by omega : (10 : Int) < ((s.length : Nat) : Int))) fun _ F441 => ?_; clear F439
    refine qg 22 (.int .u8 ((s.getD 10 0).toNat : Nat)) F441 rfl (rn_load (isAgg_no Try.underlying5 rfl) (F441.get rfl) (Fl.cellAt hc hA9 (byteVals_at (i := 10) (by omega)))) fun _ F443 => ?_; clear F441
    refine qg 23 (.int .u8 (((s.getD 10 0) &&& (1 : UInt8)).toNat : Nat)) F443 rfl (rn_and8 (a := (s.getD 10 0)) (b := (1 : UInt8)) (F443.get rfl) rfl) fun _ F445 => ?_; clear F443
    refine qg 24 (.bool (decide (((((s.getD 10 0) &&& (1 : UInt8)).toNat : Nat) : Int) = (0 : Int)))) F445 rfl (rn_eql (F445.get rfl) rfl) fun _ F447 => ?_; clear F445
    refine qg 25 (.bool (decide (((((s.getD 10 0) &&& (1 : UInt8)).toNat : Nat) : Int) = (0 : Int)))) F447 rfl (rn_move (F447.get rfl)) fun _ F449 => ?_; clear F447
    by_cases hc450 : ((((s.getD 10 0) &&& (1 : UInt8)).toNat : Nat) : Int) = (0 : Int)
    ·skip
     refine qg 26 (.int .i64 ((s.getD 11 0).toNat : Nat)) F449 (decide_eq_true hc450) (rn_move (F449.get rfl)) fun _ F452 => ?_; clear F449
     refine qg 27 (.bool (decide ((((s.getD 11 0).toNat : Nat) : Int) = (0 : Int)))) F452 (decide_eq_true hc450) (rn_eql (F452.get rfl) rfl) fun _ F454 => ?_; clear F452
     refine qg 28 (.bool (decide ((((s.getD 11 0).toNat : Nat) : Int) = (0 : Int)))) F454 rfl (rn_pickT (c_true F454 rfl (decide_eq_true hc450)) (F454.get rfl)) fun _ F456 => ?_; clear F454
     refine qv 29 (.bool (decide ((((s.getD 11 0).toNat : Nat) : Int) = (0 : Int)))) F456 rfl (rn_pickF (c_false F456 rfl rfl) (F456.get rfl)) fun _ F458 => ?_; clear F456
     refine wpList_nil ?_
     refine hK21 _ _ ?_
     clear hK21
     have F459 := (((((F458.nil.c F458 40 rfl).c F458 5 rfl).c F458 4 rfl).c F458 1 rfl).c F458 0 rfl)
     clear F458
     by_cases hc460 : (((s.getD 11 0).toNat : Nat) : Int) = (0 : Int)
     ·skip
      refine wp_cond_true (c_true F459 rfl (decide_eq_true hc460)) ?_
      refine wp_seq_k (fun K461 hK461 => ?_)
      refine wp_region_lit ?_
      refine qv 0 (.bool false) F459 rfl (rn_assign rfl) fun _ F463 => ?_; clear F459
      refine wpList_nil ?_
      refine hK461 _ _ ?_
      clear hK461
      refine wp_ret ?_
      refine ret_then ?_
      refine ret1 F463 rfl rfl ?_
      exact ⟨by rw [goodS_bad (show ¬ kindOk (s.getD 11 0).toNat (s.getD 10 0) by unfold kindOk; omega)], (Ext.refl w)⟩
     ·skip
      refine wp_cond_false (c_false F459 rfl (decide_eq_false hc460)) ?_
      refine wp_skip ?_
      refine hK20 _ _ ?_
      clear hK20
      refine wp_seq_k (fun K464 hK464 => ?_)
      refine wp_region_lit ?_
      refine qv 0 (.slice A s.length c) F459 rfl (rn_move (F459.get rfl)) fun _ F466 => ?_; clear F459
      refine qv 1 (.slice A 4 c) F466 rfl (rn_sliceHi Try.underlying35 inf5 (F466.get rfl) rfl (by omega : (0 : Int) ≤ 4) (by omega : (4 : Int) ≤ ((c : Nat) : Int))) fun _ F468 => ?_; clear F466
      have hf469 := (Fl.take_eq (j := 4) hc (by omega) (byteVals_take1 _ _))
      have z470 := num_lt4 (l := s.take 4) (by have := Fl.blen hf469; omega)
      refine wpl_op (i := 2) rfl (o_call F468 rfl rfl rfl rfl (rn_call (args1 (F468.get rfl)) rfl (by kernel_rfl)) (get_at (v := (.slice A 4 c)) (m := 4) (s.take 4) _ hf469 (by omega)) ?_)
      rintro _ w471 ⟨rfl, hx472⟩
      refine ⟨_, rfl, ?_⟩; intro a473 F474; clear F468; have z475 := hx472.size
      refine qv 3 (.int .u64 (num (s.take 4) : Nat)) F474 rfl (rn_assign (F474.get rfl)) fun _ F477 => ?_; clear F474
      refine wpList_nil ?_
      refine hK464 _ _ ?_
      clear hK464
      refine wp_seq_k (fun K478 hK478 => ?_)
      have hx480 : ∃ W, w471.drew = W ∧ Ext w471 W := ⟨_, rfl, (Ext.refl _).drew⟩
      obtain ⟨w479, e481, hx480⟩ := hx480
      have z482 := hx480.size
      refine any_start (fun W => Ext w479 W) (fun i => false) 17 #[false, false, false, false, false, false, false, false, false, false, false, false, false, false, false, false, false] rfl rfl rfl ?_
      rw [e481]; clear e481
      refine qp 0 (.int .u64 (num (s.take 4) : Nat)) F477 rfl rfl (fun W => (rn_move (F477.get rfl))) fun _ F484 => ?_; clear F477
      refine qp 1 (.bool (decide ((0 : Int) < ((num (s.take 4) : Nat) : Int)))) F484 rfl rfl (fun W => (rn_gtr (F484.get rfl) rfl)) fun _ F486 => ?_; clear F484
      refine qp 2 (.bool (decide ((0 : Int) < ((num (s.take 4) : Nat) : Int)))) F486 rfl rfl (fun W => (rn_move (F486.get rfl))) fun _ F488 => ?_; clear F486
      by_cases hc489 : (0 : Int) < ((num (s.take 4) : Nat) : Int)
      ·skip
       refine qp 3 (.slice A s.length c) F488 rfl (wanted_guard rfl rfl rfl F488 rfl (decide_eq_true hc489) rfl) (fun W => (rn_move (F488.get rfl))) fun _ F491 => ?_; clear F488
       refine qp 4 (.int .u64 (num (s.take 4) : Nat)) F491 rfl (wanted_guard rfl rfl rfl F491 rfl (decide_eq_true hc489) rfl) (fun W => (rn_move (F491.get rfl))) fun _ F493 => ?_; clear F491
       refine qp 5 (.int .i64 (k : Nat)) F493 rfl (wanted_guard rfl rfl rfl F493 rfl (decide_eq_true hc489) rfl) (fun W => (rn_move (F493.get rfl))) fun _ F495 => ?_; clear F493
       refine qp 6 (.slice A s.length c) F495 rfl (wanted_guard rfl rfl rfl F495 rfl (decide_eq_true hc489) rfl) (fun W => (rn_move (F495.get rfl))) fun _ F497 => ?_; clear F495
       refine qp 7 (.pointer (some ⟨b7, o8 + 10, none⟩)) F497 rfl (wanted_guard rfl rfl rfl F497 rfl (decide_eq_true hc489) rfl) (fun W => (rn_index1 Try.underlying35 inf5 ((F497.get rfl).trans (by rw [hA9])) rfl (by omega : (0 : Int) ≤ 10) (by omega : (10 : Int) < ((s.length : Nat) : Int)))) fun _ F499 => ?_; clear F497
       have hS500 : Ext w479 w479 := (Ext.refl w479)
       have d501 := ((hc.ext hx472).ext hx480)
       refine qs 8 (.int .u8 ((s.getD 10 0).toNat : Nat)) F499 rfl (wanted_guard rfl rfl rfl F499 rfl (decide_eq_true hc489) rfl) hS500 (fun W hW => (rn_load (isAgg_no Try.underlying5 rfl) (F499.get rfl) (Fl.cellAt (d501.ext hW) hA9 (byteVals_at (i := 10) (by omega))))) fun _ F503 => ?_; clear F499
       refine qp 9 (.slice A s.length c) F503 rfl (wanted_guard rfl rfl rfl F503 rfl (decide_eq_true hc489) rfl) (fun W => (rn_move (F503.get rfl))) fun _ F505 => ?_; clear F503
       refine qp 10 (.int .i64 ((s.getD 11 0).toNat : Nat)) F505 rfl (wanted_guard rfl rfl rfl F505 rfl (decide_eq_true hc489) rfl) (fun W => (rn_move (F505.get rfl))) fun _ F507 => ?_; clear F505
       refine qp 11 (.int .i64 (12 + ((s.getD 11 0).toNat) : Nat)) F507 rfl (wanted_guard rfl rfl rfl F507 rfl (decide_eq_true hc489) rfl) (fun W => (rn_addN (a := 12) (b := (s.getD 11 0).toNat) rfl (F507.get rfl) (by omega))) fun _ F509 => ?_; clear F507
       refine qp 12 (.slice (some ⟨b7, o8 + 12 * 1, none⟩) ((s.getD 11 0).toNat) (c - 12)) F509 rfl (wanted_guard rfl rfl rfl F509 rfl (decide_eq_true hc489) rfl) (fun W => (rn_sliceLH (l := 12) (h := (12 + ((s.getD 11 0).toNat))) Try.underlying35 inf5 ((F509.get rfl).trans (by rw [hA9])) rfl (F509.get rfl) (by omega) (by omega) (by omega) (by omega))) fun _ F511 => ?_; clear F509
       refine any_one (i := 13) (by decide +kernel) rfl ?_
       have hf515 := (Fl.mid_eq (j := 12) (m' := (s.getD 11 0).toNat) d501 hA9 (by omega) (by omega) (byteVals_mid _ _ _))
       refine o_call F511 rfl (wanted_guard rfl rfl rfl F511 rfl (decide_eq_true hc489) rfl) rfl rfl (rn_call (args4 (F511.get rfl) (F511.get rfl) (F511.get rfl) (F511.get rfl)) rfl (by kernel_rfl)) (encode_at (v := (.slice (some ⟨b7, o8 + 12 * 1, none⟩) ((s.getD 11 0).toNat) (c - 12))) (m := (s.getD 11 0).toNat) (num (s.take 4)) k (s.getD 10 0) ((s.drop 12).take ((s.getD 11 0).toNat)) _ (Fl.mid_eq (j := 12) (m' := (s.getD 11 0).toNat) d501 hA9 (by omega) (by omega) (byteVals_mid _ _ _)) (by omega) (by omega) (by omega)) ?_
       rintro _ w516 ⟨g512, z513, rfl, b514, hx517⟩
       refine ⟨_, rfl, ?_⟩; intro a518 F519; clear F511; have z520 := hx517.size
       have z521 := b514.lt
       refine ⟨fun _ _ => ((Ext.refl w479).trans hx517), ?_⟩
       refine any_one (i := 14) (by decide +kernel) rfl ?_
       have d522 := (((hc.ext hx472).ext hx480).ext hx517)
       refine o_call F519 rfl (wanted_guard rfl rfl rfl F519 rfl (decide_eq_true hc489) rfl) rfl rfl (rn_call (args2 (F519.get rfl) (F519.get rfl)) rfl (by kernel_rfl)) (beq_at (v := (.slice A s.length c)) (u := (.slice (some ⟨g512, 0, none⟩) 128 128)) (n := s.length) (m := 128) s (encL (num (s.take 4)) k (s.getD 10 0) ((s.drop 12).take ((s.getD 11 0).toNat))) _ d522 (Fl.blk (S := fun b => b = g512) (k := 1) (n := 128) (c := 128) b514 (by rw [byteVals_len (encL_len (by have := Fl.blen hf515; omega)), Nat.mul_one]) (byteVals_one _) (by omega) rfl)) ?_
       rintro _ w523 ⟨rfl, hx524⟩
       refine ⟨_, rfl, ?_⟩; intro a525 F526; clear F519; have z527 := hx524.size
       refine ⟨fun _ _ => (((Ext.refl w479).trans hx517).trans hx524), ?_⟩
       refine qp 15 (.bool (decide (s = encL (num (s.take 4)) k (s.getD 10 0) ((s.drop 12).take ((s.getD 11 0).toNat))))) F526 rfl rfl (fun W => (rn_pickT (c_true F526 rfl (decide_eq_true hc489)) (F526.get rfl))) fun _ F529 => ?_; clear F526
       refine qp 16 (.bool (decide (s = encL (num (s.take 4)) k (s.getD 10 0) ((s.drop 12).take ((s.getD 11 0).toNat))))) F529 rfl rfl (fun W => (rn_assign (F529.get rfl))) fun _ F531 => ?_; clear F529
       refine any_nil (by decide +kernel) ?_
       refine hK478 _ _ ?_
       clear hK478
       have F532 := ((((((F531.nil.c F531 6 rfl).c F531 40 rfl).c F531 5 rfl).c F531 4 rfl).c F531 1 rfl).c F531 0 rfl)
       clear F531
       refine wp_ret ?_
       refine ret1 F532 rfl rfl ?_
       exact ⟨congrArg (fun b => Ending.returned (.bool b)) (show (decide (s = encL (num (s.take 4)) k (s.getD 10 0) ((s.drop 12).take ((s.getD 11 0).toNat)))) = goodS s k from (goodS_eq (by show kindOk (s.getD 11 0).toNat (s.getD 10 0); unfold kindOk; omega) (by show 0 < num (s.take 4); omega)).symm), (((((Ext.refl w).trans hx472).trans hx480).trans hx517).trans hx524)⟩
      ·skip
       refine qk 3 F488 rfl (decide_eq_false hc489) fun _ F534 => ?_; clear F488
       refine qk 4 F534 rfl (decide_eq_false hc489) fun _ F536 => ?_; clear F534
       refine qk 5 F536 rfl (decide_eq_false hc489) fun _ F538 => ?_; clear F536
       refine qk 6 F538 rfl (decide_eq_false hc489) fun _ F540 => ?_; clear F538
       refine qk 7 F540 rfl (decide_eq_false hc489) fun _ F542 => ?_; clear F540
       refine qk 8 F542 rfl (decide_eq_false hc489) fun _ F544 => ?_; clear F542
       refine qk 9 F544 rfl (decide_eq_false hc489) fun _ F546 => ?_; clear F544
       refine qk 10 F546 rfl (decide_eq_false hc489) fun _ F548 => ?_; clear F546
       refine qk 11 F548 rfl (decide_eq_false hc489) fun _ F550 => ?_; clear F548
       refine qk 12 F550 rfl (decide_eq_false hc489) fun _ F552 => ?_; clear F550
       refine any_one (i := 13) (by decide +kernel) rfl ?_
       refine o_skip F552 rfl (unwanted_guard rfl rfl rfl F552 rfl (decide_eq_false hc489) rfl) rfl rfl ?_
       intro a553 F554; clear F552
       refine ⟨fun _ _ => (Ext.refl w479), ?_⟩
       refine any_one (i := 14) (by decide +kernel) rfl ?_
       refine o_skip F554 rfl (unwanted_guard rfl rfl rfl F554 rfl (decide_eq_false hc489) rfl) rfl rfl ?_
       intro a555 F556; clear F554
       refine ⟨fun _ _ => (Ext.refl w479), ?_⟩
       refine qp 15 (.bool false) F556 rfl rfl (fun W => (rn_pickF (c_false F556 rfl (decide_eq_false hc489)) rfl)) fun _ F558 => ?_; clear F556
       refine qp 16 (.bool false) F558 rfl rfl (fun W => (rn_assign (F558.get rfl))) fun _ F560 => ?_; clear F558
       refine any_nil (by decide +kernel) ?_
       refine hK478 _ _ ?_
       clear hK478
       have F561 := ((((((F560.nil.c F560 6 rfl).c F560 40 rfl).c F560 5 rfl).c F560 4 rfl).c F560 1 rfl).c F560 0 rfl)
       clear F560
       refine wp_ret ?_
       refine ret1 F561 rfl rfl ?_
       exact ⟨by rw [goodS_zero (show num (s.take 4) = 0 by omega)], (((Ext.refl w).trans hx472).trans hx480)⟩
    ·skip
     refine qu 26 F449 (decide_eq_false hc450) fun _ F563 => ?_; clear F449
     refine qu 27 F563 (decide_eq_false hc450) fun _ F565 => ?_; clear F563
     refine qg 28 (.bool false) F565 rfl (rn_pickF (c_false F565 rfl (decide_eq_false hc450)) rfl) fun _ F567 => ?_; clear F565
     refine qv 29 (.bool false) F567 rfl (rn_pickF (c_false F567 rfl rfl) (F567.get rfl)) fun _ F569 => ?_; clear F567
     refine wpList_nil ?_
     refine hK21 _ _ ?_
     clear hK21
     have F570 := (((((F569.nil.c F569 40 rfl).c F569 5 rfl).c F569 4 rfl).c F569 1 rfl).c F569 0 rfl)
     clear F569
     refine wp_cond_false (c_false F570 rfl rfl) ?_
     refine wp_skip ?_
     refine hK20 _ _ ?_
     clear hK20
     refine wp_seq_k (fun K571 hK571 => ?_)
     refine wp_region_lit ?_
     refine qv 0 (.slice A s.length c) F570 rfl (rn_move (F570.get rfl)) fun _ F573 => ?_; clear F570
     refine qv 1 (.slice A 4 c) F573 rfl (rn_sliceHi Try.underlying35 inf5 (F573.get rfl) rfl (by omega : (0 : Int) ≤ 4) (by omega : (4 : Int) ≤ ((c : Nat) : Int))) fun _ F575 => ?_; clear F573
     have hf576 := (Fl.take_eq (j := 4) hc (by omega) (byteVals_take1 _ _))
     have z577 := num_lt4 (l := s.take 4) (by have := Fl.blen hf576; omega)
     refine wpl_op (i := 2) rfl (o_call F575 rfl rfl rfl rfl (rn_call (args1 (F575.get rfl)) rfl (by kernel_rfl)) (get_at (v := (.slice A 4 c)) (m := 4) (s.take 4) _ hf576 (by omega)) ?_)
     rintro _ w578 ⟨rfl, hx579⟩
     refine ⟨_, rfl, ?_⟩; intro a580 F581; clear F575; have z582 := hx579.size
     refine qv 3 (.int .u64 (num (s.take 4) : Nat)) F581 rfl (rn_assign (F581.get rfl)) fun _ F584 => ?_; clear F581
     refine wpList_nil ?_
     refine hK571 _ _ ?_
     clear hK571
     refine wp_seq_k (fun K585 hK585 => ?_)
     have hx587 : ∃ W, w578.drew = W ∧ Ext w578 W := ⟨_, rfl, (Ext.refl _).drew⟩
     obtain ⟨w586, e588, hx587⟩ := hx587
     have z589 := hx587.size
     refine any_start (fun W => Ext w586 W) (fun i => false) 17 #[false, false, false, false, false, false, false, false, false, false, false, false, false, false, false, false, false] rfl rfl rfl ?_
     rw [e588]; clear e588
     refine qp 0 (.int .u64 (num (s.take 4) : Nat)) F584 rfl rfl (fun W => (rn_move (F584.get rfl))) fun _ F591 => ?_; clear F584
     refine qp 1 (.bool (decide ((0 : Int) < ((num (s.take 4) : Nat) : Int)))) F591 rfl rfl (fun W => (rn_gtr (F591.get rfl) rfl)) fun _ F593 => ?_; clear F591
     refine qp 2 (.bool (decide ((0 : Int) < ((num (s.take 4) : Nat) : Int)))) F593 rfl rfl (fun W => (rn_move (F593.get rfl))) fun _ F595 => ?_; clear F593
     by_cases hc596 : (0 : Int) < ((num (s.take 4) : Nat) : Int)
     ·skip
      refine qp 3 (.slice A s.length c) F595 rfl (wanted_guard rfl rfl rfl F595 rfl (decide_eq_true hc596) rfl) (fun W => (rn_move (F595.get rfl))) fun _ F598 => ?_; clear F595
      refine qp 4 (.int .u64 (num (s.take 4) : Nat)) F598 rfl (wanted_guard rfl rfl rfl F598 rfl (decide_eq_true hc596) rfl) (fun W => (rn_move (F598.get rfl))) fun _ F600 => ?_; clear F598
      refine qp 5 (.int .i64 (k : Nat)) F600 rfl (wanted_guard rfl rfl rfl F600 rfl (decide_eq_true hc596) rfl) (fun W => (rn_move (F600.get rfl))) fun _ F602 => ?_; clear F600
      refine qp 6 (.slice A s.length c) F602 rfl (wanted_guard rfl rfl rfl F602 rfl (decide_eq_true hc596) rfl) (fun W => (rn_move (F602.get rfl))) fun _ F604 => ?_; clear F602
      refine qp 7 (.pointer (some ⟨b7, o8 + 10, none⟩)) F604 rfl (wanted_guard rfl rfl rfl F604 rfl (decide_eq_true hc596) rfl) (fun W => (rn_index1 Try.underlying35 inf5 ((F604.get rfl).trans (by rw [hA9])) rfl (by omega : (0 : Int) ≤ 10) (by omega : (10 : Int) < ((s.length : Nat) : Int)))) fun _ F606 => ?_; clear F604
      have hS607 : Ext w586 w586 := (Ext.refl w586)
      have d608 := ((hc.ext hx579).ext hx587)
      refine qs 8 (.int .u8 ((s.getD 10 0).toNat : Nat)) F606 rfl (wanted_guard rfl rfl rfl F606 rfl (decide_eq_true hc596) rfl) hS607 (fun W hW => (rn_load (isAgg_no Try.underlying5 rfl) (F606.get rfl) (Fl.cellAt (d608.ext hW) hA9 (byteVals_at (i := 10) (by omega))))) fun _ F610 => ?_; clear F606
      refine qp 9 (.slice A s.length c) F610 rfl (wanted_guard rfl rfl rfl F610 rfl (decide_eq_true hc596) rfl) (fun W => (rn_move (F610.get rfl))) fun _ F612 => ?_; clear F610
      refine qp 10 (.int .i64 ((s.getD 11 0).toNat : Nat)) F612 rfl (wanted_guard rfl rfl rfl F612 rfl (decide_eq_true hc596) rfl) (fun W => (rn_move (F612.get rfl))) fun _ F614 => ?_; clear F612
      refine qp 11 (.int .i64 (12 + ((s.getD 11 0).toNat) : Nat)) F614 rfl (wanted_guard rfl rfl rfl F614 rfl (decide_eq_true hc596) rfl) (fun W => (rn_addN (a := 12) (b := (s.getD 11 0).toNat) rfl (F614.get rfl) (by omega))) fun _ F616 => ?_; clear F614
      refine qp 12 (.slice (some ⟨b7, o8 + 12 * 1, none⟩) ((s.getD 11 0).toNat) (c - 12)) F616 rfl (wanted_guard rfl rfl rfl F616 rfl (decide_eq_true hc596) rfl) (fun W => (rn_sliceLH (l := 12) (h := (12 + ((s.getD 11 0).toNat))) Try.underlying35 inf5 ((F616.get rfl).trans (by rw [hA9])) rfl (F616.get rfl) (by omega) (by omega) (by omega) (by omega))) fun _ F618 => ?_; clear F616
      refine any_one (i := 13) (by decide +kernel) rfl ?_
      have hf622 := (Fl.mid_eq (j := 12) (m' := (s.getD 11 0).toNat) d608 hA9 (by omega) (by omega) (byteVals_mid _ _ _))
      refine o_call F618 rfl (wanted_guard rfl rfl rfl F618 rfl (decide_eq_true hc596) rfl) rfl rfl (rn_call (args4 (F618.get rfl) (F618.get rfl) (F618.get rfl) (F618.get rfl)) rfl (by kernel_rfl)) (encode_at (v := (.slice (some ⟨b7, o8 + 12 * 1, none⟩) ((s.getD 11 0).toNat) (c - 12))) (m := (s.getD 11 0).toNat) (num (s.take 4)) k (s.getD 10 0) ((s.drop 12).take ((s.getD 11 0).toNat)) _ (Fl.mid_eq (j := 12) (m' := (s.getD 11 0).toNat) d608 hA9 (by omega) (by omega) (byteVals_mid _ _ _)) (by omega) (by omega) (by omega)) ?_
      rintro _ w623 ⟨g619, z620, rfl, b621, hx624⟩
      refine ⟨_, rfl, ?_⟩; intro a625 F626; clear F618; have z627 := hx624.size
      have z628 := b621.lt
      refine ⟨fun _ _ => ((Ext.refl w586).trans hx624), ?_⟩
      refine any_one (i := 14) (by decide +kernel) rfl ?_
      have d629 := (((hc.ext hx579).ext hx587).ext hx624)
      refine o_call F626 rfl (wanted_guard rfl rfl rfl F626 rfl (decide_eq_true hc596) rfl) rfl rfl (rn_call (args2 (F626.get rfl) (F626.get rfl)) rfl (by kernel_rfl)) (beq_at (v := (.slice A s.length c)) (u := (.slice (some ⟨g619, 0, none⟩) 128 128)) (n := s.length) (m := 128) s (encL (num (s.take 4)) k (s.getD 10 0) ((s.drop 12).take ((s.getD 11 0).toNat))) _ d629 (Fl.blk (S := fun b => b = g619) (k := 1) (n := 128) (c := 128) b621 (by rw [byteVals_len (encL_len (by have := Fl.blen hf622; omega)), Nat.mul_one]) (byteVals_one _) (by omega) rfl)) ?_
      rintro _ w630 ⟨rfl, hx631⟩
      refine ⟨_, rfl, ?_⟩; intro a632 F633; clear F626; have z634 := hx631.size
      refine ⟨fun _ _ => (((Ext.refl w586).trans hx624).trans hx631), ?_⟩
      refine qp 15 (.bool (decide (s = encL (num (s.take 4)) k (s.getD 10 0) ((s.drop 12).take ((s.getD 11 0).toNat))))) F633 rfl rfl (fun W => (rn_pickT (c_true F633 rfl (decide_eq_true hc596)) (F633.get rfl))) fun _ F636 => ?_; clear F633
      refine qp 16 (.bool (decide (s = encL (num (s.take 4)) k (s.getD 10 0) ((s.drop 12).take ((s.getD 11 0).toNat))))) F636 rfl rfl (fun W => (rn_assign (F636.get rfl))) fun _ F638 => ?_; clear F636
      refine any_nil (by decide +kernel) ?_
      refine hK585 _ _ ?_
      clear hK585
      have F639 := ((((((F638.nil.c F638 6 rfl).c F638 40 rfl).c F638 5 rfl).c F638 4 rfl).c F638 1 rfl).c F638 0 rfl)
      clear F638
      refine wp_ret ?_
      refine ret1 F639 rfl rfl ?_
      exact ⟨congrArg (fun b => Ending.returned (.bool b)) (show (decide (s = encL (num (s.take 4)) k (s.getD 10 0) ((s.drop 12).take ((s.getD 11 0).toNat)))) = goodS s k from (goodS_eq (by show kindOk (s.getD 11 0).toNat (s.getD 10 0); unfold kindOk; omega) (by show 0 < num (s.take 4); omega)).symm), (((((Ext.refl w).trans hx579).trans hx587).trans hx624).trans hx631)⟩
     ·skip
      refine qk 3 F595 rfl (decide_eq_false hc596) fun _ F641 => ?_; clear F595
      refine qk 4 F641 rfl (decide_eq_false hc596) fun _ F643 => ?_; clear F641
      refine qk 5 F643 rfl (decide_eq_false hc596) fun _ F645 => ?_; clear F643
      refine qk 6 F645 rfl (decide_eq_false hc596) fun _ F647 => ?_; clear F645
      refine qk 7 F647 rfl (decide_eq_false hc596) fun _ F649 => ?_; clear F647
      refine qk 8 F649 rfl (decide_eq_false hc596) fun _ F651 => ?_; clear F649
      refine qk 9 F651 rfl (decide_eq_false hc596) fun _ F653 => ?_; clear F651
      refine qk 10 F653 rfl (decide_eq_false hc596) fun _ F655 => ?_; clear F653
      refine qk 11 F655 rfl (decide_eq_false hc596) fun _ F657 => ?_; clear F655
      refine qk 12 F657 rfl (decide_eq_false hc596) fun _ F659 => ?_; clear F657
      refine any_one (i := 13) (by decide +kernel) rfl ?_
      refine o_skip F659 rfl (unwanted_guard rfl rfl rfl F659 rfl (decide_eq_false hc596) rfl) rfl rfl ?_
      intro a660 F661; clear F659
      refine ⟨fun _ _ => (Ext.refl w586), ?_⟩
      refine any_one (i := 14) (by decide +kernel) rfl ?_
      refine o_skip F661 rfl (unwanted_guard rfl rfl rfl F661 rfl (decide_eq_false hc596) rfl) rfl rfl ?_
      intro a662 F663; clear F661
      refine ⟨fun _ _ => (Ext.refl w586), ?_⟩
      refine qp 15 (.bool false) F663 rfl rfl (fun W => (rn_pickF (c_false F663 rfl (decide_eq_false hc596)) rfl)) fun _ F665 => ?_; clear F663
      refine qp 16 (.bool false) F665 rfl rfl (fun W => (rn_assign (F665.get rfl))) fun _ F667 => ?_; clear F665
      refine any_nil (by decide +kernel) ?_
      refine hK585 _ _ ?_
      clear hK585
      have F668 := ((((((F667.nil.c F667 6 rfl).c F667 40 rfl).c F667 5 rfl).c F667 4 rfl).c F667 1 rfl).c F667 0 rfl)
      clear F667
      refine wp_ret ?_
      refine ret1 F668 rfl rfl ?_
      exact ⟨by rw [goodS_zero (show num (s.take 4) = 0 by omega)], (((Ext.refl w).trans hx579).trans hx587)⟩

theorem good_at {v : Value} {m : Nat} (l : List UInt8) (k : Nat) (w : World) (hf : Fl S w 1 v m (byteVals l)) (hs : m = 128) (hk : k < 65536) :
  Calls Try.prog 61 #[v, .int .i64 (k : Nat)] w (fun e w' => e = .returned (.bool (goodS l k)) ∧ Ext w w') := by
 have hm := hf.blen
 subst hm
 obtain ⟨A, c, rfl, _⟩ := hf.form
 exact good_any A c l k w hf hs hk

end Go.Proofs.Ytfmhnplkpohogaa

namespace Go.Proofs.Ytfmhnplkpohogaa
open Go.RowKit

variable {S S' : Nat → Prop}

theorem RBss.clip {w : World} {v : Value} {l : List (List UInt8)} (h : RBss S w v l) : RBss (Clip S w) w v l := h.subB fun _ hb hs => ⟨hs, hb⟩
theorem good_kind {s : List UInt8} {k : Nat} (h : goodS s k = true) : (s.getD 11 0).toNat ≤ 112 ∧ (s.getD 10 0).toNat ≤ 3 ∧ 0 < num (s.take 4) := by
 have h := of_decide_eq_true h
 exact ⟨h.1.1, h.1.2.1, h.2.1⟩
end Go.Proofs.Ytfmhnplkpohogaa

namespace Go.Proofs.Ytfmhnplkpohogaa
open Go.RowKit

variable {S S' : Nat → Prop}

theorem El22 : El Try.prog 22 35 (.slice none 0 0) 1 24 := ⟨Try.underlying22, by kernel_rfl, rfl, by decide⟩

end Go.Proofs.Ytfmhnplkpohogaa
