/- The law SealSignSpec walked. -/
import Derived.Test.YtmjgjopbeokajaaDoorProg
import Derived.Test.YtmjgjopbeokajaaDoorBunK
import Derived.KernelRfl
import Derived.Test.YtmjgjopbeokajaaDoorBunA
import Derived.Test.YtmjgjopbeokajaaDoorBunB
namespace Go.Proofs.YtmjgjopbeokajaaDoor
open Go.RowKit

variable {S S' : Nat → Prop}

set_option maxRecDepth 100000 in
set_option maxHeartbeats 1000000 in
theorem signspec_any (A : Option Addr) (c : Nat) (sd : List UInt8) (many used : Int) (idx : Int) (B : Option Addr) (bc : Nat) (msg : List UInt8) (w : World) (hf : Fl S w 1 (.slice A sd.length c) sd.length (byteVals sd)) (hm : Fl S w 1 (.slice B msg.length bc) msg.length (byteVals msg)) (hG : Glob w) :
    Calls Tryd.prog 3 #[.agg #[.slice A sd.length c, .int .i64 many, .int .i64 used], .int .i64 idx, .slice B msg.length bc] w (fun e w' => e = .returned (.bool true) ∧ Ext w w') := by
  have hc : Fl (Clip S w) w 1 (.slice A sd.length c) sd.length (byteVals sd) := hf.clip
  have hcc := (Fl.cel hc).2.1
  have hmk : Fl (Clip S w) w 1 (.slice B msg.length bc) msg.length (byteVals msg) := hm.clip
  have hmkc := (Fl.cel hmk).2.1
  refine calls_enter (l := [(.agg #[(.slice A sd.length c), (.int .i64 many), (.int .i64 used)]), (.int .i64 idx), (.slice B msg.length bc)]) Tryd.func3 rfl rfl rfl (fun aA hF => ?_)
  refine wp_seq_k (fun K1 hK1 => ?_)
  refine wp_region_lit ?_
  refine wpl_op (i := 0) rfl (o_new (fun g => (.pointer (some ⟨g, 0, none⟩))) [(.slice A sd.length c), (.int .i64 many), (.int .i64 used)] 24 hF rfl rfl rfl rfl (rn_box (hF.get rfl) (by kernel_rfl)) ?_)
  intro g2 w3 a8 F9 z6 z7 b4 hx5; clear hF
  refine qv 1 (.bool false) F9 rfl (rn_assign rfl) fun _ F11 => ?_; clear F9
  refine wpList_nil ?_
  refine hK1 _ _ ?_
  clear hK1
  refine wp_seq_k (fun K12 hK12 => ?_)
  refine wp_seq_k (fun K13 hK13 => ?_)
  refine wp_region_lit ?_
  refine wpl_op (i := 0) rfl (o_call F11 rfl rfl rfl rfl (rn_call (args0 ) rfl (by kernel_rfl)) (sane4 _ (hG.ext ((Ext.refl w).trans hx5))) ?_)
  rintro _ w14 ⟨rfl, hx15⟩
  refine ⟨_, rfl, ?_⟩; intro a16 F17; clear F11; have z18 := hx15.size
  refine qv 1 (.bool false) F17 rfl (rn_not' (F17.get rfl) rfl) fun _ F20 => ?_; clear F17
  refine wpList_nil ?_
  refine hK13 _ _ ?_
  clear hK13
  refine wp_cond_false (c_false F20 rfl rfl) ?_
  refine wp_skip ?_
  refine hK12 _ _ ?_
  clear hK12
  refine wp_seq_k (fun K21 hK21 => ?_)
  refine wp_seq_k (fun K22 hK22 => ?_)
  refine wp_region_lit ?_
  have b23 := (b4.ext hx15)
  refine qv 0 (.agg #[(.slice A sd.length c), (.int .i64 many), (.int .i64 used)]) F20 rfl (rn_loadBlk (F20.get rfl) b23 Tryd.underlying24 rfl inf24) fun _ F25 => ?_; clear F20
  refine qv 1 (.slice B msg.length bc) F25 rfl (rn_move (F25.get rfl)) fun _ F27 => ?_; clear F25
  refine wpl_op (i := 2) rfl (o_call F27 rfl rfl rfl rfl (rn_call (args2 (F27.get rfl) (F27.get rfl)) rfl (by kernel_rfl)) (few_any A B c msg.length bc sd many used _) ?_)
  rintro _ w28 ⟨rfl, hx29⟩
  refine ⟨_, rfl, ?_⟩; intro a30 F31; clear F27; have z32 := hx29.size
  refine qv 3 (.bool (!(decide (((many ≤ 2 ∧ ((sd.length : Nat) : Int) ≤ 100) ∧ ((msg.length : Nat) : Int) ≤ 300))))) F31 rfl (rn_not' (F31.get rfl) rfl) fun _ F34 => ?_; clear F31
  refine qv 4 (.bool (!(decide (((many ≤ 2 ∧ ((sd.length : Nat) : Int) ≤ 100) ∧ ((msg.length : Nat) : Int) ≤ 300))))) F34 rfl (rn_move (F34.get rfl)) fun _ F36 => ?_; clear F34
  by_cases hc37 : ((many ≤ 2 ∧ ((sd.length : Nat) : Int) ≤ 100) ∧ ((msg.length : Nat) : Int) ≤ 300)
  · skip
    refine qu 5 F36 (not_t (decide_eq_true hc37)) fun _ F39 => ?_; clear F36
    refine qu 6 F39 (not_t (decide_eq_true hc37)) fun _ F41 => ?_; clear F39
    refine qv 7 (.bool false) F41 rfl (rn_pickF (c_false F41 rfl (not_t (decide_eq_true hc37))) rfl) fun _ F43 => ?_; clear F41
    refine wpList_nil ?_
    refine hK22 _ _ ?_
    clear hK22
    have F44 := (((((((F43.nil.c F43 20 rfl).c F43 12 rfl).c F43 6 rfl).c F43 3 rfl).c F43 2 rfl).c F43 1 rfl).c F43 0 rfl)
    clear F43
    refine wp_cond_false (c_false F44 rfl rfl) ?_
    refine wp_skip ?_
    refine hK21 _ _ ?_
    clear hK21
    refine wp_seq_k (fun K45 hK45 => ?_)
    refine wp_region_lit ?_
    have b46 := (b23.ext hx29)
    refine qv 0 (.agg #[(.slice A sd.length c), (.int .i64 many), (.int .i64 used)]) F44 rfl (rn_loadBlk (F44.get rfl) b46 Tryd.underlying24 rfl inf24) fun _ F48 => ?_; clear F44
    refine qv 1 (.int .i64 idx) F48 rfl (rn_move (F48.get rfl)) fun _ F50 => ?_; clear F48
    refine qv 2 (.slice B msg.length bc) F50 rfl (rn_move (F50.get rfl)) fun _ F52 => ?_; clear F50
    have d53 := (((hc.ext hx5).ext hx15).ext hx29)
    have d54 := (((hmk.ext hx5).ext hx15).ext hx29)
    refine wpl_op (i := 3) rfl (o_call F52 rfl rfl rfl rfl (rn_call (args3 (F52.get rfl) (F52.get rfl) (F52.get rfl)) rfl (by kernel_rfl)) (sign_at (v := (.slice A sd.length c)) (m := sd.length) (u := (.slice B msg.length bc)) (n := msg.length) sd many used idx msg _ d53 d54 (hG.ext ((((Ext.refl w).trans hx5).trans hx15).trans hx29))) ?_)
    obtain ⟨sg67, hsg68⟩ : ∃ z, z = signF sd many used idx msg := ⟨_, rfl⟩
    rw [← hsg68]
    rintro _ w69 ⟨A55, n56, c57, A58, n59, c60, A61, n62, c63, rfl, hf64, hf65, hf66, hx70⟩
    have h3271 : All32 sg67.op := by rw [hsg68]; exact signF_o _ _ _ _ _
    have z72 := (Fl.cel hf64).2.1; have z73 := Fl.dlen hf64 h3271
    have h3274 : All32 sg67.cl := by rw [hsg68]; exact signF_c _ _ _ _ _
    have z75 := (Fl.cel hf65).2.1; have z76 := Fl.dlen hf65 h3274
    have h3277 : All32 sg67.path := by rw [hsg68]; exact signF_p _ _ _ _ _
    have z78 := (Fl.cel hf66).2.1; have z79 := Fl.dlen hf66 h3277
    refine ⟨_, rfl, ?_⟩; intro a80 F81; clear F52; have z82 := hx70.size
    have hf83 : Fl (Clip (fun b => w28.heap.size ≤ b) w69) w69 32 (.slice A55 n56 c57) n56 (digVals sg67.op) := hf64.clip
    have hf84 : Fl (Clip (fun b => w28.heap.size ≤ b) w69) w69 32 (.slice A58 n59 c60) n59 (digVals sg67.cl) := hf65.clip
    have hf85 : Fl (Clip (fun b => w28.heap.size ≤ b) w69) w69 32 (.slice A61 n62 c63) n62 (digVals sg67.path) := hf66.clip
    refine qv 4 (.tuple #[(.agg #[(.int .i64 sg67.index), (.slice A55 n56 c57), (.slice A58 n59 c60), (.slice A61 n62 c63)]), (.int .i64 (signE sd many used idx msg))]) F81 rfl (rn_move (F81.get rfl)) fun _ F87 => ?_; clear F81
    refine qv 5 (.agg #[(.int .i64 sg67.index), (.slice A55 n56 c57), (.slice A58 n59 c60), (.slice A61 n62 c63)]) F87 rfl (rn_extract (F87.get rfl) rfl) fun _ F89 => ?_; clear F87
    refine qv 6 (.int .i64 (signE sd many used idx msg)) F89 rfl (rn_extract (F89.get rfl) rfl) fun _ F91 => ?_; clear F89
    refine wpl_op (i := 7) rfl (o_new (fun g => (.pointer (some ⟨g, 0, none⟩))) [(.int .i64 0), (.slice none 0 0), (.slice none 0 0), (.slice none 0 0)] 30 F91 rfl rfl rfl rfl (by kernel_rfl) ?_)
    intro g92 w93 a98 F99 z96 z97 b94 hx95; clear F91
    refine wpl_op (i := 8) rfl (o_store (cells := [(.int .i64 sg67.index), (.slice A55 n56 c57), (.slice A58 n59 c60), (.slice A61 n62 c63)]) F99 rfl rfl rfl rfl (F99.get rfl) (F99.get rfl) b94 inf30 rfl (by simp [Value.oneCell']) ?_)
    intro w100 b101 hg102; have z103 := hg102.size
    refine qv 9 (.int .i64 (signE sd many used idx msg)) F99 rfl (rn_assign (F99.get rfl)) fun _ F105 => ?_; clear F99
    refine wpList_nil ?_
    refine hK45 _ _ ?_
    clear hK45
    have F106 := (((((((((F105.nil.c F105 8 rfl).c F105 7 rfl).c F105 20 rfl).c F105 12 rfl).c F105 6 rfl).c F105 3 rfl).c F105 2 rfl).c F105 1 rfl).c F105 0 rfl)
    clear F105
    refine wp_seq_k (fun K107 hK107 => ?_)
    refine wp_region_lit ?_
    have b108 := (((b46.ext hx70).ext hx95).grownN hg102 (by omega))
    refine qv 0 (.agg #[(.slice A sd.length c), (.int .i64 many), (.int .i64 used)]) F106 rfl (rn_loadBlk (F106.get rfl) b108 Tryd.underlying24 rfl inf24) fun _ F110 => ?_; clear F106
    refine qv 1 (.int .i64 idx) F110 rfl (rn_move (F110.get rfl)) fun _ F112 => ?_; clear F110
    refine qv 2 (.slice B msg.length bc) F112 rfl (rn_move (F112.get rfl)) fun _ F114 => ?_; clear F112
    have d115 := (hc.pres (((((((Pres.refl w).ext hx5).ext hx15).ext hx29).ext hx70).ext hx95).grownN hg102 (fun h => by simp only [Clip] at h; omega)))
    have d116 := (hmk.pres (((((((Pres.refl w).ext hx5).ext hx15).ext hx29).ext hx70).ext hx95).grownN hg102 (fun h => by simp only [Clip] at h; omega)))
    refine wpl_op (i := 3) rfl (o_call F114 rfl rfl rfl rfl (rn_call (args3 (F114.get rfl) (F114.get rfl) (F114.get rfl)) rfl (by kernel_rfl)) (rsign_at (v := (.slice A sd.length c)) (m := sd.length) (u := (.slice B msg.length bc)) (n := msg.length) sd many used idx msg _ d115 d116) ?_)
    obtain ⟨sg129, hsg130⟩ : ∃ z, z = signF sd many used idx msg := ⟨_, rfl⟩
    rw [← hsg130]
    rintro _ w131 ⟨A117, n118, c119, A120, n121, c122, A123, n124, c125, rfl, hf126, hf127, hf128, hx132⟩
    have h32133 : All32 sg129.op := by rw [hsg130]; exact signF_o _ _ _ _ _
    have z134 := (Fl.cel hf126).2.1; have z135 := Fl.dlen hf126 h32133
    have h32136 : All32 sg129.cl := by rw [hsg130]; exact signF_c _ _ _ _ _
    have z137 := (Fl.cel hf127).2.1; have z138 := Fl.dlen hf127 h32136
    have h32139 : All32 sg129.path := by rw [hsg130]; exact signF_p _ _ _ _ _
    have z140 := (Fl.cel hf128).2.1; have z141 := Fl.dlen hf128 h32139
    refine ⟨_, rfl, ?_⟩; intro a142 F143; clear F114; have z144 := hx132.size
    have hf145 : Fl (Clip (fun b => w100.heap.size ≤ b) w131) w131 32 (.slice A117 n118 c119) n118 (digVals sg129.op) := hf126.clip
    have hf146 : Fl (Clip (fun b => w100.heap.size ≤ b) w131) w131 32 (.slice A120 n121 c122) n121 (digVals sg129.cl) := hf127.clip
    have hf147 : Fl (Clip (fun b => w100.heap.size ≤ b) w131) w131 32 (.slice A123 n124 c125) n124 (digVals sg129.path) := hf128.clip
    refine qv 4 (.tuple #[(.agg #[(.int .i64 sg129.index), (.slice A117 n118 c119), (.slice A120 n121 c122), (.slice A123 n124 c125)]), (.int .i64 (signE sd many used idx msg))]) F143 rfl (rn_move (F143.get rfl)) fun _ F149 => ?_; clear F143
    refine qv 5 (.agg #[(.int .i64 sg129.index), (.slice A117 n118 c119), (.slice A120 n121 c122), (.slice A123 n124 c125)]) F149 rfl (rn_extract (F149.get rfl) rfl) fun _ F151 => ?_; clear F149
    refine qv 6 (.int .i64 (signE sd many used idx msg)) F151 rfl (rn_extract (F151.get rfl) rfl) fun _ F153 => ?_; clear F151
    refine wpl_op (i := 7) rfl (o_new (fun g => (.pointer (some ⟨g, 0, none⟩))) [(.int .i64 0), (.slice none 0 0), (.slice none 0 0), (.slice none 0 0)] 30 F153 rfl rfl rfl rfl (by kernel_rfl) ?_)
    intro g154 w155 a160 F161 z158 z159 b156 hx157; clear F153
    refine wpl_op (i := 8) rfl (o_store (cells := [(.int .i64 sg129.index), (.slice A117 n118 c119), (.slice A120 n121 c122), (.slice A123 n124 c125)]) F161 rfl rfl rfl rfl (F161.get rfl) (F161.get rfl) b156 inf30 rfl (by simp [Value.oneCell']) ?_)
    intro w162 b163 hg164; have z165 := hg164.size
    refine qv 9 (.int .i64 (signE sd many used idx msg)) F161 rfl (rn_assign (F161.get rfl)) fun _ F167 => ?_; clear F161
    refine wpList_nil ?_
    refine hK107 _ _ ?_
    clear hK107
    have F168 := (((((((((((F167.nil.c F167 10 rfl).c F167 9 rfl).c F167 8 rfl).c F167 7 rfl).c F167 20 rfl).c F167 12 rfl).c F167 6 rfl).c F167 3 rfl).c F167 2 rfl).c F167 1 rfl).c F167 0 rfl)
    clear F167
    refine wp_seq_k (fun K169 hK169 => ?_)
    refine wp_region_lit ?_
    refine qv 0 (.int .i64 (signE sd many used idx msg)) F168 rfl (rn_move (F168.get rfl)) fun _ F171 => ?_; clear F168
    refine qv 1 (.int .i64 (signE sd many used idx msg)) F171 rfl (rn_move (F171.get rfl)) fun _ F173 => ?_; clear F171
    refine qv 2 (.bool (decide (((signE sd many used idx msg) : Int) = ((signE sd many used idx msg) : Int)))) F173 rfl (rn_eql (F173.get rfl) (F173.get rfl)) fun _ F175 => ?_; clear F173
    refine qv 3 (.bool (decide (((signE sd many used idx msg) : Int) = ((signE sd many used idx msg) : Int)))) F175 rfl (rn_move (F175.get rfl)) fun _ F177 => ?_; clear F175
    have b179 := (((b101.ext hx132).ext hx157).grownN hg164 (by omega))
    refine qg 4 (.agg #[(.int .i64 sg67.index), (.slice A55 n56 c57), (.slice A58 n59 c60), (.slice A61 n62 c63)]) F177 ((decide_eq_true rfl) : decide (((signE sd many used idx msg) : Int) = ((signE sd many used idx msg) : Int)) = true) (rn_loadBlk (F177.get rfl) b179 Tryd.underlying30 rfl inf30) fun _ F181 => ?_; clear F177
    refine qg 5 (.agg #[(.int .i64 sg129.index), (.slice A117 n118 c119), (.slice A120 n121 c122), (.slice A123 n124 c125)]) F181 ((decide_eq_true rfl) : decide (((signE sd many used idx msg) : Int) = ((signE sd many used idx msg) : Int)) = true) (rn_loadBlk (F181.get rfl) b163 Tryd.underlying30 rfl inf30) fun _ F183 => ?_; clear F181
    have d184 := (hf83.pres ((((((Pres.refl w69).ext hx95).grownN hg102 (fun h => by simp only [Clip] at h; omega)).ext hx132).ext hx157).grownN hg164 (fun h => by simp only [Clip] at h; omega)))
    have d185 := (hf84.pres ((((((Pres.refl w69).ext hx95).grownN hg102 (fun h => by simp only [Clip] at h; omega)).ext hx132).ext hx157).grownN hg164 (fun h => by simp only [Clip] at h; omega)))
    have d186 := (hf85.pres ((((((Pres.refl w69).ext hx95).grownN hg102 (fun h => by simp only [Clip] at h; omega)).ext hx132).ext hx157).grownN hg164 (fun h => by simp only [Clip] at h; omega)))
    have d187 := (hf145.pres (((Pres.refl w131).ext hx157).grownN hg164 (fun h => by simp only [Clip] at h; omega)))
    have d188 := (hf146.pres (((Pres.refl w131).ext hx157).grownN hg164 (fun h => by simp only [Clip] at h; omega)))
    have d189 := (hf147.pres (((Pres.refl w131).ext hx157).grownN hg164 (fun h => by simp only [Clip] at h; omega)))
    refine wpl_op (i := 6) rfl (o_call F183 rfl (wanted_guard rfl rfl rfl F183 rfl ((decide_eq_true rfl) : decide (((signE sd many used idx msg) : Int) = ((signE sd many used idx msg) : Int)) = true) rfl) rfl rfl (rn_call (args2 (F183.get rfl) (F183.get rfl)) rfl (by kernel_rfl)) (sames_at (n1 := n56) (n2 := n59) (n3 := n62) (m1 := n118) (m2 := n121) (m3 := n124) sg67 sg129 _ d184 d185 d186 h3271 h3274 h3277 d187 d188 d189 h32133 h32136 h32139) ?_)
    rintro _ w190 ⟨rfl, hx191⟩
    refine ⟨_, rfl, ?_⟩; intro a192 F193; clear F183; have z194 := hx191.size
    refine qv 7 (.bool (sameS sg67 sg129)) F193 rfl (rn_pickT (c_true F193 rfl ((decide_eq_true rfl) : decide (((signE sd many used idx msg) : Int) = ((signE sd many used idx msg) : Int)) = true)) (F193.get rfl)) fun _ F196 => ?_; clear F193
    refine qv 8 (.bool (sameS sg67 sg129)) F196 rfl (rn_assign (F196.get rfl)) fun _ F198 => ?_; clear F196
    refine wpList_nil ?_
    refine hK169 _ _ ?_
    clear hK169
    have F199 := (((((((((((F198.nil.c F198 10 rfl).c F198 9 rfl).c F198 8 rfl).c F198 7 rfl).c F198 20 rfl).c F198 12 rfl).c F198 6 rfl).c F198 3 rfl).c F198 2 rfl).c F198 1 rfl).c F198 0 rfl)
    clear F198
    refine wp_ret ?_
    refine ret1 F199 rfl rfl ?_
    have hsg200 : sg129 = sg67 := hsg130.trans hsg68.symm
    exact ⟨congrArg (fun b => Ending.returned (.bool b)) (((by rw [hsg200]; exact sameS_refl _) : sameS sg67 sg129 = true) : sameS sg67 sg129 = true), (((((((((((Ext.refl w).trans hx5).trans hx15).trans hx29).trans hx70).trans hx95).grownN hg102 (by omega)).trans hx132).trans hx157).grownN hg164 (by omega)).trans hx191)⟩
  · skip
    have b201 := (b23.ext hx29)
    refine qg 5 (.agg #[(.slice A sd.length c), (.int .i64 many), (.int .i64 used)]) F36 (not_f (decide_eq_false hc37)) (rn_loadBlk (F36.get rfl) b201 Tryd.underlying24 rfl inf24) fun _ F203 => ?_; clear F36
    have d204 := (((hc.ext hx5).ext hx15).ext hx29)
    refine wpl_op (i := 6) rfl (o_call F203 rfl (wanted_guard rfl rfl rfl F203 rfl (not_f (decide_eq_false hc37)) rfl) rfl rfl (rn_call (args1 (F203.get rfl)) rfl (by kernel_rfl)) (rvalid_at (v := (.slice A sd.length c)) (m := sd.length) sd many used _ d204) ?_)
    rintro _ w205 ⟨rfl, hx206⟩
    refine ⟨_, rfl, ?_⟩; intro a207 F208; clear F203; have z209 := hx206.size
    refine qv 7 (.bool (kOk sd many used)) F208 rfl (rn_pickT (c_true F208 rfl (not_f (decide_eq_false hc37))) (F208.get rfl)) fun _ F211 => ?_; clear F208
    refine wpList_nil ?_
    refine hK22 _ _ ?_
    clear hK22
    have F212 := (((((((F211.nil.c F211 20 rfl).c F211 12 rfl).c F211 6 rfl).c F211 3 rfl).c F211 2 rfl).c F211 1 rfl).c F211 0 rfl)
    clear F211
    rcases Bool.eq_false_or_eq_true (kOk sd many used) with hc213 | hc213
    · skip
      refine wp_cond_true (c_true F212 rfl hc213) ?_
      refine wp_seq_k (fun K214 hK214 => ?_)
      refine wp_region_lit ?_
      refine qv 0 (.bool true) F212 rfl (rn_assign rfl) fun _ F216 => ?_; clear F212
      refine wpList_nil ?_
      refine hK214 _ _ ?_
      clear hK214
      refine wp_ret ?_
      refine ret_then ?_
      refine ret1 F216 rfl rfl ?_
      exact ⟨congrArg (fun b => Ending.returned (.bool b)) (rfl : true = true), (((((Ext.refl w).trans hx5).trans hx15).trans hx29).trans hx206)⟩
    · skip
      refine wp_cond_false (c_false F212 rfl hc213) ?_
      refine wp_skip ?_
      refine hK21 _ _ ?_
      clear hK21
      refine wp_seq_k (fun K217 hK217 => ?_)
      refine wp_region_lit ?_
      have b218 := (b201.ext hx206)
      refine qv 0 (.agg #[(.slice A sd.length c), (.int .i64 many), (.int .i64 used)]) F212 rfl (rn_loadBlk (F212.get rfl) b218 Tryd.underlying24 rfl inf24) fun _ F220 => ?_; clear F212
      refine qv 1 (.int .i64 idx) F220 rfl (rn_move (F220.get rfl)) fun _ F222 => ?_; clear F220
      refine qv 2 (.slice B msg.length bc) F222 rfl (rn_move (F222.get rfl)) fun _ F224 => ?_; clear F222
      have d225 := ((((hc.ext hx5).ext hx15).ext hx29).ext hx206)
      have d226 := ((((hmk.ext hx5).ext hx15).ext hx29).ext hx206)
      refine wpl_op (i := 3) rfl (o_call F224 rfl rfl rfl rfl (rn_call (args3 (F224.get rfl) (F224.get rfl) (F224.get rfl)) rfl (by kernel_rfl)) (sign_at (v := (.slice A sd.length c)) (m := sd.length) (u := (.slice B msg.length bc)) (n := msg.length) sd many used idx msg _ d225 d226 (hG.ext (((((Ext.refl w).trans hx5).trans hx15).trans hx29).trans hx206))) ?_)
      obtain ⟨sg239, hsg240⟩ : ∃ z, z = signF sd many used idx msg := ⟨_, rfl⟩
      rw [← hsg240]
      rintro _ w241 ⟨A227, n228, c229, A230, n231, c232, A233, n234, c235, rfl, hf236, hf237, hf238, hx242⟩
      have h32243 : All32 sg239.op := by rw [hsg240]; exact signF_o _ _ _ _ _
      have z244 := (Fl.cel hf236).2.1; have z245 := Fl.dlen hf236 h32243
      have h32246 : All32 sg239.cl := by rw [hsg240]; exact signF_c _ _ _ _ _
      have z247 := (Fl.cel hf237).2.1; have z248 := Fl.dlen hf237 h32246
      have h32249 : All32 sg239.path := by rw [hsg240]; exact signF_p _ _ _ _ _
      have z250 := (Fl.cel hf238).2.1; have z251 := Fl.dlen hf238 h32249
      refine ⟨_, rfl, ?_⟩; intro a252 F253; clear F224; have z254 := hx242.size
      have hf255 : Fl (Clip (fun b => w205.heap.size ≤ b) w241) w241 32 (.slice A227 n228 c229) n228 (digVals sg239.op) := hf236.clip
      have hf256 : Fl (Clip (fun b => w205.heap.size ≤ b) w241) w241 32 (.slice A230 n231 c232) n231 (digVals sg239.cl) := hf237.clip
      have hf257 : Fl (Clip (fun b => w205.heap.size ≤ b) w241) w241 32 (.slice A233 n234 c235) n234 (digVals sg239.path) := hf238.clip
      refine qv 4 (.tuple #[(.agg #[(.int .i64 sg239.index), (.slice A227 n228 c229), (.slice A230 n231 c232), (.slice A233 n234 c235)]), (.int .i64 (signE sd many used idx msg))]) F253 rfl (rn_move (F253.get rfl)) fun _ F259 => ?_; clear F253
      refine qv 5 (.agg #[(.int .i64 sg239.index), (.slice A227 n228 c229), (.slice A230 n231 c232), (.slice A233 n234 c235)]) F259 rfl (rn_extract (F259.get rfl) rfl) fun _ F261 => ?_; clear F259
      refine qv 6 (.int .i64 (signE sd many used idx msg)) F261 rfl (rn_extract (F261.get rfl) rfl) fun _ F263 => ?_; clear F261
      refine wpl_op (i := 7) rfl (o_new (fun g => (.pointer (some ⟨g, 0, none⟩))) [(.int .i64 0), (.slice none 0 0), (.slice none 0 0), (.slice none 0 0)] 30 F263 rfl rfl rfl rfl (by kernel_rfl) ?_)
      intro g264 w265 a270 F271 z268 z269 b266 hx267; clear F263
      refine wpl_op (i := 8) rfl (o_store (cells := [(.int .i64 sg239.index), (.slice A227 n228 c229), (.slice A230 n231 c232), (.slice A233 n234 c235)]) F271 rfl rfl rfl rfl (F271.get rfl) (F271.get rfl) b266 inf30 rfl (by simp [Value.oneCell']) ?_)
      intro w272 b273 hg274; have z275 := hg274.size
      refine qv 9 (.int .i64 (signE sd many used idx msg)) F271 rfl (rn_assign (F271.get rfl)) fun _ F277 => ?_; clear F271
      refine wpList_nil ?_
      refine hK217 _ _ ?_
      clear hK217
      have F278 := (((((((((F277.nil.c F277 8 rfl).c F277 7 rfl).c F277 20 rfl).c F277 12 rfl).c F277 6 rfl).c F277 3 rfl).c F277 2 rfl).c F277 1 rfl).c F277 0 rfl)
      clear F277
      refine wp_seq_k (fun K279 hK279 => ?_)
      refine wp_region_lit ?_
      have b280 := (((b218.ext hx242).ext hx267).grownN hg274 (by omega))
      refine qv 0 (.agg #[(.slice A sd.length c), (.int .i64 many), (.int .i64 used)]) F278 rfl (rn_loadBlk (F278.get rfl) b280 Tryd.underlying24 rfl inf24) fun _ F282 => ?_; clear F278
      refine qv 1 (.int .i64 idx) F282 rfl (rn_move (F282.get rfl)) fun _ F284 => ?_; clear F282
      refine qv 2 (.slice B msg.length bc) F284 rfl (rn_move (F284.get rfl)) fun _ F286 => ?_; clear F284
      have d287 := (hc.pres ((((((((Pres.refl w).ext hx5).ext hx15).ext hx29).ext hx206).ext hx242).ext hx267).grownN hg274 (fun h => by simp only [Clip] at h; omega)))
      have d288 := (hmk.pres ((((((((Pres.refl w).ext hx5).ext hx15).ext hx29).ext hx206).ext hx242).ext hx267).grownN hg274 (fun h => by simp only [Clip] at h; omega)))
      refine wpl_op (i := 3) rfl (o_call F286 rfl rfl rfl rfl (rn_call (args3 (F286.get rfl) (F286.get rfl) (F286.get rfl)) rfl (by kernel_rfl)) (rsign_at (v := (.slice A sd.length c)) (m := sd.length) (u := (.slice B msg.length bc)) (n := msg.length) sd many used idx msg _ d287 d288) ?_)
      obtain ⟨sg301, hsg302⟩ : ∃ z, z = signF sd many used idx msg := ⟨_, rfl⟩
      rw [← hsg302]
      rintro _ w303 ⟨A289, n290, c291, A292, n293, c294, A295, n296, c297, rfl, hf298, hf299, hf300, hx304⟩
      have h32305 : All32 sg301.op := by rw [hsg302]; exact signF_o _ _ _ _ _
      have z306 := (Fl.cel hf298).2.1; have z307 := Fl.dlen hf298 h32305
      have h32308 : All32 sg301.cl := by rw [hsg302]; exact signF_c _ _ _ _ _
      have z309 := (Fl.cel hf299).2.1; have z310 := Fl.dlen hf299 h32308
      have h32311 : All32 sg301.path := by rw [hsg302]; exact signF_p _ _ _ _ _
      have z312 := (Fl.cel hf300).2.1; have z313 := Fl.dlen hf300 h32311
      refine ⟨_, rfl, ?_⟩; intro a314 F315; clear F286; have z316 := hx304.size
      have hf317 : Fl (Clip (fun b => w272.heap.size ≤ b) w303) w303 32 (.slice A289 n290 c291) n290 (digVals sg301.op) := hf298.clip
      have hf318 : Fl (Clip (fun b => w272.heap.size ≤ b) w303) w303 32 (.slice A292 n293 c294) n293 (digVals sg301.cl) := hf299.clip
      have hf319 : Fl (Clip (fun b => w272.heap.size ≤ b) w303) w303 32 (.slice A295 n296 c297) n296 (digVals sg301.path) := hf300.clip
      refine qv 4 (.tuple #[(.agg #[(.int .i64 sg301.index), (.slice A289 n290 c291), (.slice A292 n293 c294), (.slice A295 n296 c297)]), (.int .i64 (signE sd many used idx msg))]) F315 rfl (rn_move (F315.get rfl)) fun _ F321 => ?_; clear F315
      refine qv 5 (.agg #[(.int .i64 sg301.index), (.slice A289 n290 c291), (.slice A292 n293 c294), (.slice A295 n296 c297)]) F321 rfl (rn_extract (F321.get rfl) rfl) fun _ F323 => ?_; clear F321
      refine qv 6 (.int .i64 (signE sd many used idx msg)) F323 rfl (rn_extract (F323.get rfl) rfl) fun _ F325 => ?_; clear F323
      refine wpl_op (i := 7) rfl (o_new (fun g => (.pointer (some ⟨g, 0, none⟩))) [(.int .i64 0), (.slice none 0 0), (.slice none 0 0), (.slice none 0 0)] 30 F325 rfl rfl rfl rfl (by kernel_rfl) ?_)
      intro g326 w327 a332 F333 z330 z331 b328 hx329; clear F325
      refine wpl_op (i := 8) rfl (o_store (cells := [(.int .i64 sg301.index), (.slice A289 n290 c291), (.slice A292 n293 c294), (.slice A295 n296 c297)]) F333 rfl rfl rfl rfl (F333.get rfl) (F333.get rfl) b328 inf30 rfl (by simp [Value.oneCell']) ?_)
      intro w334 b335 hg336; have z337 := hg336.size
      refine qv 9 (.int .i64 (signE sd many used idx msg)) F333 rfl (rn_assign (F333.get rfl)) fun _ F339 => ?_; clear F333
      refine wpList_nil ?_
      refine hK279 _ _ ?_
      clear hK279
      have F340 := (((((((((((F339.nil.c F339 10 rfl).c F339 9 rfl).c F339 8 rfl).c F339 7 rfl).c F339 20 rfl).c F339 12 rfl).c F339 6 rfl).c F339 3 rfl).c F339 2 rfl).c F339 1 rfl).c F339 0 rfl)
      clear F339
      refine wp_seq_k (fun K341 hK341 => ?_)
      refine wp_region_lit ?_
      refine qv 0 (.int .i64 (signE sd many used idx msg)) F340 rfl (rn_move (F340.get rfl)) fun _ F343 => ?_; clear F340
      refine qv 1 (.int .i64 (signE sd many used idx msg)) F343 rfl (rn_move (F343.get rfl)) fun _ F345 => ?_; clear F343
      refine qv 2 (.bool (decide (((signE sd many used idx msg) : Int) = ((signE sd many used idx msg) : Int)))) F345 rfl (rn_eql (F345.get rfl) (F345.get rfl)) fun _ F347 => ?_; clear F345
      refine qv 3 (.bool (decide (((signE sd many used idx msg) : Int) = ((signE sd many used idx msg) : Int)))) F347 rfl (rn_move (F347.get rfl)) fun _ F349 => ?_; clear F347
      have b351 := (((b273.ext hx304).ext hx329).grownN hg336 (by omega))
      refine qg 4 (.agg #[(.int .i64 sg239.index), (.slice A227 n228 c229), (.slice A230 n231 c232), (.slice A233 n234 c235)]) F349 ((decide_eq_true rfl) : decide (((signE sd many used idx msg) : Int) = ((signE sd many used idx msg) : Int)) = true) (rn_loadBlk (F349.get rfl) b351 Tryd.underlying30 rfl inf30) fun _ F353 => ?_; clear F349
      refine qg 5 (.agg #[(.int .i64 sg301.index), (.slice A289 n290 c291), (.slice A292 n293 c294), (.slice A295 n296 c297)]) F353 ((decide_eq_true rfl) : decide (((signE sd many used idx msg) : Int) = ((signE sd many used idx msg) : Int)) = true) (rn_loadBlk (F353.get rfl) b335 Tryd.underlying30 rfl inf30) fun _ F355 => ?_; clear F353
      have d356 := (hf255.pres ((((((Pres.refl w241).ext hx267).grownN hg274 (fun h => by simp only [Clip] at h; omega)).ext hx304).ext hx329).grownN hg336 (fun h => by simp only [Clip] at h; omega)))
      have d357 := (hf256.pres ((((((Pres.refl w241).ext hx267).grownN hg274 (fun h => by simp only [Clip] at h; omega)).ext hx304).ext hx329).grownN hg336 (fun h => by simp only [Clip] at h; omega)))
      have d358 := (hf257.pres ((((((Pres.refl w241).ext hx267).grownN hg274 (fun h => by simp only [Clip] at h; omega)).ext hx304).ext hx329).grownN hg336 (fun h => by simp only [Clip] at h; omega)))
      have d359 := (hf317.pres (((Pres.refl w303).ext hx329).grownN hg336 (fun h => by simp only [Clip] at h; omega)))
      have d360 := (hf318.pres (((Pres.refl w303).ext hx329).grownN hg336 (fun h => by simp only [Clip] at h; omega)))
      have d361 := (hf319.pres (((Pres.refl w303).ext hx329).grownN hg336 (fun h => by simp only [Clip] at h; omega)))
      refine wpl_op (i := 6) rfl (o_call F355 rfl (wanted_guard rfl rfl rfl F355 rfl ((decide_eq_true rfl) : decide (((signE sd many used idx msg) : Int) = ((signE sd many used idx msg) : Int)) = true) rfl) rfl rfl (rn_call (args2 (F355.get rfl) (F355.get rfl)) rfl (by kernel_rfl)) (sames_at (n1 := n228) (n2 := n231) (n3 := n234) (m1 := n290) (m2 := n293) (m3 := n296) sg239 sg301 _ d356 d357 d358 h32243 h32246 h32249 d359 d360 d361 h32305 h32308 h32311) ?_)
      rintro _ w362 ⟨rfl, hx363⟩
      refine ⟨_, rfl, ?_⟩; intro a364 F365; clear F355; have z366 := hx363.size
      refine qv 7 (.bool (sameS sg239 sg301)) F365 rfl (rn_pickT (c_true F365 rfl ((decide_eq_true rfl) : decide (((signE sd many used idx msg) : Int) = ((signE sd many used idx msg) : Int)) = true)) (F365.get rfl)) fun _ F368 => ?_; clear F365
      refine qv 8 (.bool (sameS sg239 sg301)) F368 rfl (rn_assign (F368.get rfl)) fun _ F370 => ?_; clear F368
      refine wpList_nil ?_
      refine hK341 _ _ ?_
      clear hK341
      have F371 := (((((((((((F370.nil.c F370 10 rfl).c F370 9 rfl).c F370 8 rfl).c F370 7 rfl).c F370 20 rfl).c F370 12 rfl).c F370 6 rfl).c F370 3 rfl).c F370 2 rfl).c F370 1 rfl).c F370 0 rfl)
      clear F370
      refine wp_ret ?_
      refine ret1 F371 rfl rfl ?_
      have hsg372 : sg301 = sg239 := hsg302.trans hsg240.symm
      exact ⟨congrArg (fun b => Ending.returned (.bool b)) (((by rw [hsg372]; exact sameS_refl _) : sameS sg239 sg301 = true) : sameS sg239 sg301 = true), ((((((((((((Ext.refl w).trans hx5).trans hx15).trans hx29).trans hx206).trans hx242).trans hx267).grownN hg274 (by omega)).trans hx304).trans hx329).grownN hg336 (by omega)).trans hx363)⟩

end Go.Proofs.YtmjgjopbeokajaaDoor
