/- The law SealShape walked. -/
import Derived.Test.YtmjgjopbeokajaaDoorProg
import Derived.Test.YtmjgjopbeokajaaDoorBunG
import Derived.KernelRfl
import Derived.Test.YtmjgjopbeokajaaDoorBunA
import Derived.Test.YtmjgjopbeokajaaDoorBunB
namespace Go.Proofs.YtmjgjopbeokajaaDoor
open Go.RowKit

variable {S S' : Nat → Prop}

set_option maxRecDepth 100000 in
set_option maxHeartbeats 1000000 in
theorem shape_any (A : Option Addr) (c : Nat) (sd : List UInt8) (many used : Int) (B : Option Addr) (bc : Nat) (msg : List UInt8) (kd x : Int) (w : World) (hf : Fl S w 1 (.slice A sd.length c) sd.length (byteVals sd)) (hm : Fl S w 1 (.slice B msg.length bc) msg.length (byteVals msg)) (hG : Glob w) :
    Calls Tryd.prog 10 #[.agg #[.slice A sd.length c, .int .i64 many, .int .i64 used], .slice B msg.length bc, .int .i64 kd, .int .i64 x] w (fun e w' => e = .returned (.bool true) ∧ Ext w w') := by
  have hc : Fl (Clip S w) w 1 (.slice A sd.length c) sd.length (byteVals sd) := hf.clip
  have hcc := (Fl.cel hc).2.1
  have hmk : Fl (Clip S w) w 1 (.slice B msg.length bc) msg.length (byteVals msg) := hm.clip
  have hmkc := (Fl.cel hmk).2.1
  refine calls_enter (l := [(.agg #[(.slice A sd.length c), (.int .i64 many), (.int .i64 used)]), (.slice B msg.length bc), (.int .i64 kd), (.int .i64 x)]) Tryd.func10 rfl rfl rfl (fun aA hF => ?_)
  refine wp_seq_k (fun K1 hK1 => ?_)
  refine wp_region_lit ?_
  refine wpl_op (i := 0) rfl (o_new (fun g => (.pointer (some ⟨g, 0, none⟩))) [(.slice A sd.length c), (.int .i64 many), (.int .i64 used)] 24 hF rfl rfl rfl rfl (rn_box (hF.get rfl) (by kernel_rfl)) ?_)
  intro g2 w3 a8 F9 z6 z7 b4 hx5; clear hF
  refine qv 1 (.bool false) F9 rfl (rn_assign rfl) fun _ F11 => ?_; clear F9
  refine wpList_nil ?_
  refine hK1 _ _ ?_
  clear hK1
  refine wp_seq_k (fun K12 hK12 => ?_)
  refine wp_seq_k (fun K13 hK13 => ?_)
  refine wp_region_lit ?_
  refine wpl_op (i := 0) rfl (o_call F11 rfl rfl rfl rfl (rn_call (args0 ) rfl (by kernel_rfl)) (sane4 _ (hG.ext ((Ext.refl w).trans hx5))) ?_)
  rintro _ w14 ⟨rfl, hx15⟩
  refine ⟨_, rfl, ?_⟩; intro a16 F17; clear F11; have z18 := hx15.size
  refine qv 1 (.bool false) F17 rfl (rn_not' (F17.get rfl) rfl) fun _ F20 => ?_; clear F17
  refine wpList_nil ?_
  refine hK13 _ _ ?_
  clear hK13
  refine wp_cond_false (c_false F20 rfl rfl) ?_
  refine wp_skip ?_
  refine hK12 _ _ ?_
  clear hK12
  refine wp_seq_k (fun K21 hK21 => ?_)
  refine wp_seq_k (fun K22 hK22 => ?_)
  refine wp_region_lit ?_
  have b23 := (b4.ext hx15)
  refine qv 0 (.agg #[(.slice A sd.length c), (.int .i64 many), (.int .i64 used)]) F20 rfl (rn_loadBlk (F20.get rfl) b23 Tryd.underlying24 rfl inf24) fun _ F25 => ?_; clear F20
  refine qv 1 (.slice B msg.length bc) F25 rfl (rn_move (F25.get rfl)) fun _ F27 => ?_; clear F25
  refine wpl_op (i := 2) rfl (o_call F27 rfl rfl rfl rfl (rn_call (args2 (F27.get rfl) (F27.get rfl)) rfl (by kernel_rfl)) (few_any A B c msg.length bc sd many used _) ?_)
  rintro _ w28 ⟨rfl, hx29⟩
  refine ⟨_, rfl, ?_⟩; intro a30 F31; clear F27; have z32 := hx29.size
  refine qv 3 (.bool (!(decide (((many ≤ 2 ∧ ((sd.length : Nat) : Int) ≤ 100) ∧ ((msg.length : Nat) : Int) ≤ 300))))) F31 rfl (rn_not' (F31.get rfl) rfl) fun _ F34 => ?_; clear F31
  refine wpList_nil ?_
  refine hK22 _ _ ?_
  clear hK22
  have F35 := ((((((((F34.nil.c F34 19 rfl).c F34 15 rfl).c F34 8 rfl).c F34 4 rfl).c F34 3 rfl).c F34 2 rfl).c F34 1 rfl).c F34 0 rfl)
  clear F34
  by_cases hc36 : ((many ≤ 2 ∧ ((sd.length : Nat) : Int) ≤ 100) ∧ ((msg.length : Nat) : Int) ≤ 300)
  · skip
    refine wp_cond_false (c_false F35 rfl (not_t (decide_eq_true hc36))) ?_
    refine wp_skip ?_
    refine hK21 _ _ ?_
    clear hK21
    refine wp_seq_k (fun K37 hK37 => ?_)
    refine wp_region_lit ?_
    have b38 := (b23.ext hx29)
    refine qv 0 (.agg #[(.slice A sd.length c), (.int .i64 many), (.int .i64 used)]) F35 rfl (rn_loadBlk (F35.get rfl) b38 Tryd.underlying24 rfl inf24) fun _ F40 => ?_; clear F35
    have d41 := (((hc.ext hx5).ext hx15).ext hx29)
    refine wpl_op (i := 1) rfl (o_call F40 rfl rfl rfl rfl (rn_call (args1 (F40.get rfl)) rfl (by kernel_rfl)) (pub_at (v := (.slice A sd.length c)) (m := sd.length) sd many used _ d41 (hG.ext ((((Ext.refl w).trans hx5).trans hx15).trans hx29))) ?_)
    rintro _ w42 ⟨rfl, hx43⟩
    refine ⟨_, rfl, ?_⟩; intro a44 F45; clear F40; have z46 := hx43.size
    refine qv 2 (.tuple #[(.agg (byteVals (pubF sd many used)).toArray), (.int .i64 (pubE sd many used))]) F45 rfl (rn_move (F45.get rfl)) fun _ F48 => ?_; clear F45
    refine qv 3 (.agg (byteVals (pubF sd many used)).toArray) F48 rfl (rn_extract (F48.get rfl) rfl) fun _ F50 => ?_; clear F48
    refine qv 4 (.int .i64 (pubE sd many used)) F50 rfl (rn_extract (F50.get rfl) rfl) fun _ F52 => ?_; clear F50
    refine wpl_op (i := 5) rfl (o_new (fun g => (.pointer (some ⟨g, 0, none⟩))) (byteVals (List.replicate 32 0)) 37 F52 rfl rfl rfl rfl (by kernel_rfl) ?_)
    intro g53 w54 a59 F60 z57 z58 b55 hx56; clear F52
    refine wpl_op (i := 6) rfl (o_store (cells := (byteVals (pubF sd many used))) F60 rfl rfl rfl rfl (F60.get rfl) (F60.get rfl) b55 (inf37.trans (congrArg some (byteVals_len (pubF_len _ _ _)).symm)) ((byteVals_len (show List.length (List.replicate 32 0) = _ from List.length_replicate)).trans (byteVals_len (pubF_len _ _ _)).symm) (byteVals_one _) ?_)
    intro w61 b62 hg63; have z64 := hg63.size
    refine qv 7 (.int .i64 (pubE sd many used)) F60 rfl (rn_assign (F60.get rfl)) fun _ F66 => ?_; clear F60
    refine wpList_nil ?_
    refine hK37 _ _ ?_
    clear hK37
    have F67 := ((((((((((F66.nil.c F66 10 rfl).c F66 9 rfl).c F66 19 rfl).c F66 15 rfl).c F66 8 rfl).c F66 4 rfl).c F66 3 rfl).c F66 2 rfl).c F66 1 rfl).c F66 0 rfl)
    clear F66
    refine wp_seq_k (fun K68 hK68 => ?_)
    refine wp_region_lit ?_
    have b69 := (((b38.ext hx43).ext hx56).grownN hg63 (by omega))
    refine qv 0 (.agg #[(.slice A sd.length c), (.int .i64 many), (.int .i64 used)]) F67 rfl (rn_loadBlk (F67.get rfl) b69 Tryd.underlying24 rfl inf24) fun _ F71 => ?_; clear F67
    refine qv 1 (.slice B msg.length bc) F71 rfl (rn_move (F71.get rfl)) fun _ F73 => ?_; clear F71
    have d74 := (hc.pres (((((((Pres.refl w).ext hx5).ext hx15).ext hx29).ext hx43).ext hx56).grownN hg63 (fun h => by simp only [Clip] at h; omega)))
    have d75 := (hmk.pres (((((((Pres.refl w).ext hx5).ext hx15).ext hx29).ext hx43).ext hx56).grownN hg63 (fun h => by simp only [Clip] at h; omega)))
    refine wpl_op (i := 2) rfl (o_call F73 rfl rfl rfl rfl (rn_call (args3 (F73.get rfl) rfl (F73.get rfl)) rfl (by kernel_rfl)) (sign_at (v := (.slice A sd.length c)) (m := sd.length) (u := (.slice B msg.length bc)) (n := msg.length) sd many used 0 msg _ d74 d75 (hG.ext (((((((Ext.refl w).trans hx5).trans hx15).trans hx29).trans hx43).trans hx56).grownN hg63 (by omega)))) ?_)
    obtain ⟨sg88, hsg89⟩ : ∃ z, z = signF sd many used 0 msg := ⟨_, rfl⟩
    rw [← hsg89]
    rintro _ w90 ⟨A76, n77, c78, A79, n80, c81, A82, n83, c84, rfl, hf85, hf86, hf87, hx91⟩
    have h3292 : All32 sg88.op := by rw [hsg89]; exact signF_o _ _ _ _ _
    have z93 := (Fl.cel hf85).2.1; have z94 := Fl.dlen hf85 h3292
    have h3295 : All32 sg88.cl := by rw [hsg89]; exact signF_c _ _ _ _ _
    have z96 := (Fl.cel hf86).2.1; have z97 := Fl.dlen hf86 h3295
    have h3298 : All32 sg88.path := by rw [hsg89]; exact signF_p _ _ _ _ _
    have z99 := (Fl.cel hf87).2.1; have z100 := Fl.dlen hf87 h3298
    refine ⟨_, rfl, ?_⟩; intro a101 F102; clear F73; have z103 := hx91.size
    have hf104 : Fl (Clip (fun b => w61.heap.size ≤ b) w90) w90 32 (.slice A76 n77 c78) n77 (digVals sg88.op) := hf85.clip
    have hf105 : Fl (Clip (fun b => w61.heap.size ≤ b) w90) w90 32 (.slice A79 n80 c81) n80 (digVals sg88.cl) := hf86.clip
    have hf106 : Fl (Clip (fun b => w61.heap.size ≤ b) w90) w90 32 (.slice A82 n83 c84) n83 (digVals sg88.path) := hf87.clip
    refine qv 3 (.tuple #[(.agg #[(.int .i64 sg88.index), (.slice A76 n77 c78), (.slice A79 n80 c81), (.slice A82 n83 c84)]), (.int .i64 (signE sd many used 0 msg))]) F102 rfl (rn_move (F102.get rfl)) fun _ F108 => ?_; clear F102
    refine qv 4 (.agg #[(.int .i64 sg88.index), (.slice A76 n77 c78), (.slice A79 n80 c81), (.slice A82 n83 c84)]) F108 rfl (rn_extract (F108.get rfl) rfl) fun _ F110 => ?_; clear F108
    refine qv 5 (.int .i64 (signE sd many used 0 msg)) F110 rfl (rn_extract (F110.get rfl) rfl) fun _ F112 => ?_; clear F110
    refine wpl_op (i := 6) rfl (o_new (fun g => (.pointer (some ⟨g, 0, none⟩))) [(.int .i64 0), (.slice none 0 0), (.slice none 0 0), (.slice none 0 0)] 30 F112 rfl rfl rfl rfl (by kernel_rfl) ?_)
    intro g113 w114 a119 F120 z117 z118 b115 hx116; clear F112
    refine wpl_op (i := 7) rfl (o_store (cells := [(.int .i64 sg88.index), (.slice A76 n77 c78), (.slice A79 n80 c81), (.slice A82 n83 c84)]) F120 rfl rfl rfl rfl (F120.get rfl) (F120.get rfl) b115 inf30 rfl (by simp [Value.oneCell']) ?_)
    intro w121 b122 hg123; have z124 := hg123.size
    refine qv 8 (.int .i64 (signE sd many used 0 msg)) F120 rfl (rn_assign (F120.get rfl)) fun _ F126 => ?_; clear F120
    refine wpList_nil ?_
    refine hK68 _ _ ?_
    clear hK68
    have F127 := ((((((((((((F126.nil.c F126 12 rfl).c F126 11 rfl).c F126 10 rfl).c F126 9 rfl).c F126 19 rfl).c F126 15 rfl).c F126 8 rfl).c F126 4 rfl).c F126 3 rfl).c F126 2 rfl).c F126 1 rfl).c F126 0 rfl)
    clear F126
    refine wp_seq_k (fun K128 hK128 => ?_)
    refine wp_seq_k (fun K129 hK129 => ?_)
    refine wp_region_lit ?_
    refine qv 0 (.int .i64 (pubE sd many used)) F127 rfl (rn_move (F127.get rfl)) fun _ F131 => ?_; clear F127
    refine qv 1 (.bool (decide (((pubE sd many used) : Int) ≠ (0 : Int)))) F131 rfl (rn_neq (F131.get rfl) rfl) fun _ F133 => ?_; clear F131
    refine qv 2 (.bool (decide (((pubE sd many used) : Int) ≠ (0 : Int)))) F133 rfl (rn_move (F133.get rfl)) fun _ F135 => ?_; clear F133
    by_cases hc136 : ((pubE sd many used) : Int) ≠ (0 : Int)
    · skip
      refine qu 3 F135 (decide_eq_true hc136) fun _ F138 => ?_; clear F135
      refine qu 4 F138 (decide_eq_true hc136) fun _ F140 => ?_; clear F138
      refine qv 5 (.bool true) F140 rfl (rn_pickT (c_true F140 rfl (decide_eq_true hc136)) rfl) fun _ F142 => ?_; clear F140
      refine qv 6 (.bool true) F142 rfl (rn_move (F142.get rfl)) fun _ F144 => ?_; clear F142
      refine qu 7 F144 rfl fun _ F146 => ?_; clear F144
      refine qu 8 F146 rfl fun _ F148 => ?_; clear F146
      refine qu 9 F148 rfl fun _ F150 => ?_; clear F148
      refine qu 10 F150 rfl fun _ F152 => ?_; clear F150
      refine qv 11 (.bool true) F152 rfl (rn_pickT (c_true F152 rfl rfl) rfl) fun _ F154 => ?_; clear F152
      refine qv 12 (.bool true) F154 rfl (rn_move (F154.get rfl)) fun _ F156 => ?_; clear F154
      refine qu 13 F156 rfl fun _ F158 => ?_; clear F156
      refine qu 14 F158 rfl fun _ F160 => ?_; clear F158
      refine qu 15 F160 rfl fun _ F162 => ?_; clear F160
      refine qu 16 F162 rfl fun _ F164 => ?_; clear F162
      refine qv 17 (.bool true) F164 rfl (rn_pickT (c_true F164 rfl rfl) rfl) fun _ F166 => ?_; clear F164
      refine wpList_nil ?_
      refine hK129 _ _ ?_
      clear hK129
      have F167 := (((((((((((((F166.nil.c F166 48 rfl).c F166 12 rfl).c F166 11 rfl).c F166 10 rfl).c F166 9 rfl).c F166 19 rfl).c F166 15 rfl).c F166 8 rfl).c F166 4 rfl).c F166 3 rfl).c F166 2 rfl).c F166 1 rfl).c F166 0 rfl)
      clear F166
      refine wp_cond_true (c_true F167 rfl rfl) ?_
      refine wp_seq_k (fun K168 hK168 => ?_)
      refine wp_region_lit ?_
      refine qv 0 (.int .i64 (pubE sd many used)) F167 rfl (rn_move (F167.get rfl)) fun _ F170 => ?_; clear F167
      refine qv 1 (.bool (decide (((pubE sd many used) : Int) ≠ (0 : Int)))) F170 rfl (rn_neq (F170.get rfl) rfl) fun _ F172 => ?_; clear F170
      refine qv 2 (.bool (decide (((pubE sd many used) : Int) ≠ (0 : Int)))) F172 rfl (rn_move (F172.get rfl)) fun _ F174 => ?_; clear F172
      refine qu 3 F174 (decide_eq_true hc136) fun _ F176 => ?_; clear F174
      refine qu 4 F176 (decide_eq_true hc136) fun _ F178 => ?_; clear F176
      refine qv 5 (.bool true) F178 rfl (rn_pickT (c_true F178 rfl (decide_eq_true hc136)) rfl) fun _ F180 => ?_; clear F178
      refine qv 6 (.bool true) F180 rfl (rn_assign (F180.get rfl)) fun _ F182 => ?_; clear F180
      refine wpList_nil ?_
      refine hK168 _ _ ?_
      clear hK168
      have F183 := (((((((((((((F182.nil.c F182 48 rfl).c F182 12 rfl).c F182 11 rfl).c F182 10 rfl).c F182 9 rfl).c F182 19 rfl).c F182 15 rfl).c F182 8 rfl).c F182 4 rfl).c F182 3 rfl).c F182 2 rfl).c F182 1 rfl).c F182 0 rfl)
      clear F182
      refine wp_ret ?_
      refine ret_then ?_
      refine ret1 F183 rfl rfl ?_
      exact ⟨congrArg (fun b => Ending.returned (.bool b)) (rfl : true = true), ((((((((((Ext.refl w).trans hx5).trans hx15).trans hx29).trans hx43).trans hx56).grownN hg63 (by omega)).trans hx91).trans hx116).grownN hg123 (by omega))⟩
    · skip
      refine qg 3 (.int .i64 (signE sd many used 0 msg)) F135 (decide_eq_false hc136) (rn_move (F135.get rfl)) fun _ F185 => ?_; clear F135
      refine qg 4 (.bool (decide (((signE sd many used 0 msg) : Int) ≠ (0 : Int)))) F185 (decide_eq_false hc136) (rn_neq (F185.get rfl) rfl) fun _ F187 => ?_; clear F185
      refine qv 5 (.bool (decide (((signE sd many used 0 msg) : Int) ≠ (0 : Int)))) F187 rfl (rn_pickF (c_false F187 rfl (decide_eq_false hc136)) (F187.get rfl)) fun _ F189 => ?_; clear F187
      refine qv 6 (.bool (decide (((signE sd many used 0 msg) : Int) ≠ (0 : Int)))) F189 rfl (rn_move (F189.get rfl)) fun _ F191 => ?_; clear F189
      by_cases hc192 : ((signE sd many used 0 msg) : Int) ≠ (0 : Int)
      · skip
        refine qu 7 F191 (decide_eq_true hc192) fun _ F194 => ?_; clear F191
        refine qu 8 F194 (decide_eq_true hc192) fun _ F196 => ?_; clear F194
        refine qu 9 F196 (decide_eq_true hc192) fun _ F198 => ?_; clear F196
        refine qu 10 F198 (decide_eq_true hc192) fun _ F200 => ?_; clear F198
        refine qv 11 (.bool true) F200 rfl (rn_pickT (c_true F200 rfl (decide_eq_true hc192)) rfl) fun _ F202 => ?_; clear F200
        refine qv 12 (.bool true) F202 rfl (rn_move (F202.get rfl)) fun _ F204 => ?_; clear F202
        refine qu 13 F204 rfl fun _ F206 => ?_; clear F204
        refine qu 14 F206 rfl fun _ F208 => ?_; clear F206
        refine qu 15 F208 rfl fun _ F210 => ?_; clear F208
        refine qu 16 F210 rfl fun _ F212 => ?_; clear F210
        refine qv 17 (.bool true) F212 rfl (rn_pickT (c_true F212 rfl rfl) rfl) fun _ F214 => ?_; clear F212
        refine wpList_nil ?_
        refine hK129 _ _ ?_
        clear hK129
        have F215 := (((((((((((((F214.nil.c F214 48 rfl).c F214 12 rfl).c F214 11 rfl).c F214 10 rfl).c F214 9 rfl).c F214 19 rfl).c F214 15 rfl).c F214 8 rfl).c F214 4 rfl).c F214 3 rfl).c F214 2 rfl).c F214 1 rfl).c F214 0 rfl)
        clear F214
        refine wp_cond_true (c_true F215 rfl rfl) ?_
        refine wp_seq_k (fun K216 hK216 => ?_)
        refine wp_region_lit ?_
        refine qv 0 (.int .i64 (pubE sd many used)) F215 rfl (rn_move (F215.get rfl)) fun _ F218 => ?_; clear F215
        refine qv 1 (.bool (decide (((pubE sd many used) : Int) ≠ (0 : Int)))) F218 rfl (rn_neq (F218.get rfl) rfl) fun _ F220 => ?_; clear F218
        refine qv 2 (.bool (decide (((pubE sd many used) : Int) ≠ (0 : Int)))) F220 rfl (rn_move (F220.get rfl)) fun _ F222 => ?_; clear F220
        refine qg 3 (.int .i64 (signE sd many used 0 msg)) F222 (decide_eq_false hc136) (rn_move (F222.get rfl)) fun _ F224 => ?_; clear F222
        refine qg 4 (.bool (decide (((signE sd many used 0 msg) : Int) ≠ (0 : Int)))) F224 (decide_eq_false hc136) (rn_neq (F224.get rfl) rfl) fun _ F226 => ?_; clear F224
        refine qv 5 (.bool (decide (((signE sd many used 0 msg) : Int) ≠ (0 : Int)))) F226 rfl (rn_pickF (c_false F226 rfl (decide_eq_false hc136)) (F226.get rfl)) fun _ F228 => ?_; clear F226
        refine qv 6 (.bool (decide (((signE sd many used 0 msg) : Int) ≠ (0 : Int)))) F228 rfl (rn_assign (F228.get rfl)) fun _ F230 => ?_; clear F228
        refine wpList_nil ?_
        refine hK216 _ _ ?_
        clear hK216
        have F231 := (((((((((((((F230.nil.c F230 48 rfl).c F230 12 rfl).c F230 11 rfl).c F230 10 rfl).c F230 9 rfl).c F230 19 rfl).c F230 15 rfl).c F230 8 rfl).c F230 4 rfl).c F230 3 rfl).c F230 2 rfl).c F230 1 rfl).c F230 0 rfl)
        clear F230
        refine wp_ret ?_
        refine ret_then ?_
        refine ret1 F231 rfl rfl ?_
        exact ⟨congrArg (fun b => Ending.returned (.bool b)) ((decide_eq_true hc192) : decide (((signE sd many used 0 msg) : Int) ≠ (0 : Int)) = true), ((((((((((Ext.refl w).trans hx5).trans hx15).trans hx29).trans hx43).trans hx56).grownN hg63 (by omega)).trans hx91).trans hx116).grownN hg123 (by omega))⟩
      · skip
        refine qg 7 (.pointer (some ⟨g113, 1, none⟩)) F191 (decide_eq_false hc192) (rn_field Tryd.underlying30 rfl (by kernel_rfl) (F191.get rfl) rfl) fun _ F233 => ?_; clear F191
        refine qg 8 (.slice A76 n77 c78) F233 (decide_eq_false hc192) (rn_load (isAgg_no Tryd.underlying28 rfl) (F233.get rfl) (b122.rule.1 1)) fun _ F235 => ?_; clear F233
        refine qg 9 (.int .i64 (n77 : Nat)) F235 (decide_eq_false hc192) (rn_len_slice Tryd.underlying28 (F235.get rfl)) fun _ F237 => ?_; clear F235
        refine qg 10 (.bool (decide (((n77 : Nat) : Int) = (0 : Int)))) F237 (decide_eq_false hc192) (rn_eql (F237.get rfl) rfl) fun _ F239 => ?_; clear F237
        refine qv 11 (.bool (decide (((n77 : Nat) : Int) = (0 : Int)))) F239 rfl (rn_pickF (c_false F239 rfl (decide_eq_false hc192)) (F239.get rfl)) fun _ F241 => ?_; clear F239
        refine qv 12 (.bool (decide (((n77 : Nat) : Int) = (0 : Int)))) F241 rfl (rn_move (F241.get rfl)) fun _ F243 => ?_; clear F241
        refine qg 13 (.pointer (some ⟨g113, 2, none⟩)) F243 ((decide_eq_false (by have hq := sign_len (show signE sd many used 0 msg = 0 from (by have hq := of_decide_eq_false (decide_eq_false hc192); omega)); rw [← hsg89] at hq; omega)) : decide (((n77 : Nat) : Int) = (0 : Int)) = false) (rn_field Tryd.underlying30 rfl (by kernel_rfl) (F243.get rfl) rfl) fun _ F246 => ?_; clear F243
        refine qg 14 (.slice A79 n80 c81) F246 ((decide_eq_false (by have hq := sign_len (show signE sd many used 0 msg = 0 from (by have hq := of_decide_eq_false (decide_eq_false hc192); omega)); rw [← hsg89] at hq; omega)) : decide (((n77 : Nat) : Int) = (0 : Int)) = false) (rn_load (isAgg_no Tryd.underlying28 rfl) (F246.get rfl) (b122.rule.1 2)) fun _ F248 => ?_; clear F246
        refine qg 15 (.int .i64 (n80 : Nat)) F248 ((decide_eq_false (by have hq := sign_len (show signE sd many used 0 msg = 0 from (by have hq := of_decide_eq_false (decide_eq_false hc192); omega)); rw [← hsg89] at hq; omega)) : decide (((n77 : Nat) : Int) = (0 : Int)) = false) (rn_len_slice Tryd.underlying28 (F248.get rfl)) fun _ F250 => ?_; clear F248
        refine qg 16 (.bool (decide (((n80 : Nat) : Int) = (0 : Int)))) F250 ((decide_eq_false (by have hq := sign_len (show signE sd many used 0 msg = 0 from (by have hq := of_decide_eq_false (decide_eq_false hc192); omega)); rw [← hsg89] at hq; omega)) : decide (((n77 : Nat) : Int) = (0 : Int)) = false) (rn_eql (F250.get rfl) rfl) fun _ F252 => ?_; clear F250
        refine qv 17 (.bool (decide (((n80 : Nat) : Int) = (0 : Int)))) F252 rfl (rn_pickF (c_false F252 rfl ((decide_eq_false (by have hq := sign_len (show signE sd many used 0 msg = 0 from (by have hq := of_decide_eq_false (decide_eq_false hc192); omega)); rw [← hsg89] at hq; omega)) : decide (((n77 : Nat) : Int) = (0 : Int)) = false)) (F252.get rfl)) fun _ F254 => ?_; clear F252
        refine wpList_nil ?_
        refine hK129 _ _ ?_
        clear hK129
        have F255 := (((((((((((((F254.nil.c F254 48 rfl).c F254 12 rfl).c F254 11 rfl).c F254 10 rfl).c F254 9 rfl).c F254 19 rfl).c F254 15 rfl).c F254 8 rfl).c F254 4 rfl).c F254 3 rfl).c F254 2 rfl).c F254 1 rfl).c F254 0 rfl)
        clear F254
        refine wp_cond_false (c_false F255 rfl ((decide_eq_false (by have hq := sign_len (show signE sd many used 0 msg = 0 from (by have hq := of_decide_eq_false (decide_eq_false hc192); omega)); rw [← hsg89] at hq; omega)) : decide (((n80 : Nat) : Int) = (0 : Int)) = false)) ?_
        refine wp_skip ?_
        refine hK128 _ _ ?_
        clear hK128
        refine wp_seq_k (fun K257 hK257 => ?_)
        have hz1 : signE sd many used 0 msg = 0 := (show signE sd many used 0 msg = 0 from (by have hq := of_decide_eq_false (decide_eq_false hc192); omega))
        have hl1 := sign_len hz1
        rw [← hsg89] at hl1
        have hp1 := sign_path hz1
        rw [← hsg89] at hp1
        have hko := kOk_iff.1 (sign_zero hz1).1
        refine wp_region_lit ?_
        refine qv 0 (.pointer (some ⟨g2, 1, none⟩)) F255 rfl (rn_field Tryd.underlying24 rfl (by kernel_rfl) (F255.get rfl) rfl) fun _ F259 => ?_; clear F255
        have b260 := (((b69.ext hx91).ext hx116).grownN hg123 (by omega))
        refine qv 1 (.int .i64 many) F259 rfl (rn_load (isAgg_no Tryd.underlying3 rfl) (F259.get rfl) (b260.rule.1 1)) fun _ F262 => ?_; clear F259
        refine qv 2 (.int .i64 many) F262 rfl (rn_assign (F262.get rfl)) fun _ F264 => ?_; clear F262
        refine wpList_nil ?_
        refine hK257 _ _ ?_
        clear hK257
        refine wp_seq_k (fun K265 hK265 => ?_)
        refine wp_seq_k (fun K266 hK266 => ?_)
        refine wp_region_lit ?_
        refine qv 0 (.int .i64 kd) F264 rfl (rn_move (F264.get rfl)) fun _ F268 => ?_; clear F264
        refine wpList_nil ?_
        refine hK266 _ _ ?_
        clear hK266
        refine wp_block ?_
        refine wp_seq_k (fun K269 hK269 => ?_)
        refine wp_region_lit ?_
        refine qv 0 (.bool (decide ((kd : Int) = (0 : Int)))) F268 rfl (rn_eql (F268.get rfl) rfl) fun _ F271 => ?_; clear F268
        refine qv 1 (.bool (decide ((kd : Int) = (0 : Int)))) F271 rfl (rn_assign (F271.get rfl)) fun _ F273 => ?_; clear F271
        refine wpList_nil ?_
        refine hK269 _ _ ?_
        clear hK269
        by_cases hc274 : (kd : Int) = (0 : Int)
        · skip
          refine wp_cond_true (c_true F273 rfl (decide_eq_true hc274)) ?_
          refine wp_region_lit ?_
          refine qv 0 (.pointer (some ⟨g113, 1, none⟩)) F273 rfl (rn_field Tryd.underlying30 rfl (by kernel_rfl) (F273.get rfl) rfl) fun _ F276 => ?_; clear F273
          refine qv 1 (.slice A76 n77 c78) F276 rfl (rn_load (isAgg_no Tryd.underlying28 rfl) (F276.get rfl) (b122.rule.1 1)) fun _ F278 => ?_; clear F276
          refine qv 2 (.pointer (some ⟨g113, 1, none⟩)) F278 rfl (rn_field Tryd.underlying30 rfl (by kernel_rfl) (F278.get rfl) rfl) fun _ F280 => ?_; clear F278
          refine qv 3 (.slice A76 n77 c78) F280 rfl (rn_load (isAgg_no Tryd.underlying28 rfl) (F280.get rfl) (b122.rule.1 1)) fun _ F282 => ?_; clear F280
          refine qv 4 (.int .i64 (n77 : Nat)) F282 rfl (rn_len_slice Tryd.underlying28 (F282.get rfl)) fun _ F284 => ?_; clear F282
          refine qv 5 (.int .i64 (n77 - 1 : Nat)) F284 rfl (rn_subN (a := n77) (b := 1) (F284.get rfl) rfl (by omega) (by omega)) fun _ F286 => ?_; clear F284
          refine qv 6 (.slice A76 (n77 - 1) c78) F286 rfl (rn_sliceHi Tryd.underlying28 inf37 (F286.get rfl) (F286.get rfl) (by omega : (0 : Int) ≤ (n77 - 1 : Nat)) (by omega : ((n77 - 1 : Nat) : Int) ≤ ((c78 : Nat) : Int))) fun _ F288 => ?_; clear F286
          refine qv 7 (.pointer (some ⟨g113, 1, none⟩)) F288 rfl (rn_field Tryd.underlying30 rfl (by kernel_rfl) (F288.get rfl) rfl) fun _ F290 => ?_; clear F288
          refine wpl_op (i := 8) rfl (o_store1 (new := [(.int .i64 sg88.index), (.slice A76 (n77 - 1) c78), (.slice A79 n80 c81), (.slice A82 n83 c84)]) F290 rfl rfl rfl rfl (F290.get rfl) (F290.get rfl) b122 inf28 (by simp) rfl rfl ?_)
          intro w291 b292 hg293; have z294 := hg293.size
          refine wpList_nil ?_
          refine hK265 _ _ ?_
          clear hK265
          have F295 := ((((((((((((((((F290.nil.c F290 63 rfl).c F290 57 rfl).c F290 13 rfl).c F290 48 rfl).c F290 12 rfl).c F290 11 rfl).c F290 10 rfl).c F290 9 rfl).c F290 19 rfl).c F290 15 rfl).c F290 8 rfl).c F290 4 rfl).c F290 3 rfl).c F290 2 rfl).c F290 1 rfl).c F290 0 rfl)
          clear F290
          refine wp_seq_k (fun K296 hK296 => ?_)
          refine wp_region_lit ?_
          have b297 := ((((b62.ext hx91).ext hx116).grownN hg123 (by omega)).grownN hg293 (by omega))
          refine qv 0 (.agg (byteVals (pubF sd many used)).toArray) F295 rfl (rn_loadBlk (F295.get rfl) b297 Tryd.underlying37 rfl (inf37.trans (congrArg some (byteVals_len (pubF_len _ _ _)).symm))) fun _ F299 => ?_; clear F295
          refine qv 1 (.int .i64 many) F299 rfl (rn_move (F299.get rfl)) fun _ F301 => ?_; clear F299
          refine qv 2 (.slice B msg.length bc) F301 rfl (rn_move (F301.get rfl)) fun _ F303 => ?_; clear F301
          refine qv 3 (.agg #[(.int .i64 sg88.index), (.slice A76 (n77 - 1) c78), (.slice A79 n80 c81), (.slice A82 n83 c84)]) F303 rfl (rn_loadBlk (F303.get rfl) b292 Tryd.underlying30 rfl inf30) fun _ F305 => ?_; clear F303
          have d306 := (hmk.pres (((((((((((Pres.refl w).ext hx5).ext hx15).ext hx29).ext hx43).ext hx56).grownN hg63 (fun h => by simp only [Clip] at h; omega)).ext hx91).ext hx116).grownN hg123 (fun h => by simp only [Clip] at h; omega)).grownN hg293 (fun h => by simp only [Clip] at h; omega)))
          have d307 := (hf104.pres ((((Pres.refl w90).ext hx116).grownN hg123 (fun h => by simp only [Clip] at h; omega)).grownN hg293 (fun h => by simp only [Clip] at h; omega)))
          have d308 := (hf105.pres ((((Pres.refl w90).ext hx116).grownN hg123 (fun h => by simp only [Clip] at h; omega)).grownN hg293 (fun h => by simp only [Clip] at h; omega)))
          have d309 := (hf106.pres ((((Pres.refl w90).ext hx116).grownN hg123 (fun h => by simp only [Clip] at h; omega)).grownN hg293 (fun h => by simp only [Clip] at h; omega)))
          refine wpl_op (i := 4) rfl (o_call F305 rfl rfl rfl rfl (rn_call (args4 (F305.get rfl) (F305.get rfl) (F305.get rfl) (F305.get rfl)) rfl (by kernel_rfl)) (verify_at (v := (.slice B msg.length bc)) (m := msg.length) (u1 := (.slice A76 (n77 - 1) c78)) (u2 := (.slice A79 n80 c81)) (u3 := (.slice A82 n83 c84)) (n1 := (n77 - 1)) (n2 := n80) (n3 := n83) (pubF sd many used) many msg ⟨sg88.index, sg88.op.take (n77 - 1), sg88.cl, sg88.path⟩ _ (pubF_len _ _ _) d306 (Fl.take_eq (j := (n77 - 1)) d307 (by omega) (digVals_take h3292 _)) d308 d309 (All32.take h3292 _) h3295 h3298 (hG.ext (((((((((((Ext.refl w).trans hx5).trans hx15).trans hx29).trans hx43).trans hx56).grownN hg63 (by omega)).trans hx91).trans hx116).grownN hg123 (by omega)).grownN hg293 (by omega)))) ?_)
          rintro _ w310 ⟨rfl, hx311⟩
          refine ⟨_, rfl, ?_⟩; intro a312 F313; clear F305; have z314 := hx311.size
          refine qv 5 (.bool (!(verifyF (pubF sd many used) many msg ⟨sg88.index, sg88.op.take (n77 - 1), sg88.cl, sg88.path⟩))) F313 rfl (rn_not' (F313.get rfl) rfl) fun _ F316 => ?_; clear F313
          refine qv 6 (.bool (!(verifyF (pubF sd many used) many msg ⟨sg88.index, sg88.op.take (n77 - 1), sg88.cl, sg88.path⟩))) F316 rfl (rn_assign (F316.get rfl)) fun _ F318 => ?_; clear F316
          refine wpList_nil ?_
          refine hK296 _ _ ?_
          clear hK296
          have F319 := ((((((((((((((((F318.nil.c F318 63 rfl).c F318 57 rfl).c F318 13 rfl).c F318 48 rfl).c F318 12 rfl).c F318 11 rfl).c F318 10 rfl).c F318 9 rfl).c F318 19 rfl).c F318 15 rfl).c F318 8 rfl).c F318 4 rfl).c F318 3 rfl).c F318 2 rfl).c F318 1 rfl).c F318 0 rfl)
          clear F318
          refine wp_ret ?_
          refine ret1 F319 rfl rfl ?_
          exact ⟨congrArg (fun b => Ending.returned (.bool b)) ((not_f ((verify_not (by unfold vShape; (try simp only [List.length_take, List.length_append, List.length_cons, List.length_nil]); omega)) : verifyF (pubF sd many used) many msg ⟨sg88.index, sg88.op.take (n77 - 1), sg88.cl, sg88.path⟩ = false)) : (!(verifyF (pubF sd many used) many msg ⟨sg88.index, sg88.op.take (n77 - 1), sg88.cl, sg88.path⟩)) = true), ((((((((((((Ext.refl w).trans hx5).trans hx15).trans hx29).trans hx43).trans hx56).grownN hg63 (by omega)).trans hx91).trans hx116).grownN hg123 (by omega)).grownN hg293 (by omega)).trans hx311)⟩
        · skip
          refine wp_cond_false (c_false F273 rfl (decide_eq_false hc274)) ?_
          refine wp_seq_k (fun K320 hK320 => ?_)
          refine wp_region_lit ?_
          refine qv 0 (.bool (decide ((kd : Int) = (1 : Int)))) F273 rfl (rn_eql (F273.get rfl) rfl) fun _ F322 => ?_; clear F273
          refine qv 1 (.bool (decide ((kd : Int) = (1 : Int)))) F322 rfl (rn_assign (F322.get rfl)) fun _ F324 => ?_; clear F322
          refine wpList_nil ?_
          refine hK320 _ _ ?_
          clear hK320
          have F325 := (((((((((((((((((F324.nil.c F324 73 rfl).c F324 63 rfl).c F324 57 rfl).c F324 13 rfl).c F324 48 rfl).c F324 12 rfl).c F324 11 rfl).c F324 10 rfl).c F324 9 rfl).c F324 19 rfl).c F324 15 rfl).c F324 8 rfl).c F324 4 rfl).c F324 3 rfl).c F324 2 rfl).c F324 1 rfl).c F324 0 rfl)
          clear F324
          by_cases hc326 : (kd : Int) = (1 : Int)
          · skip
            refine wp_cond_true (c_true F325 rfl (decide_eq_true hc326)) ?_
            have hx328 : ∃ W, w121.drew = W ∧ Ext w121 W := ⟨_, rfl, (Ext.refl _).drew⟩
            obtain ⟨w327, e329, hx328⟩ := hx328
            have z330 := hx328.size
            refine any_start (fun W => Ext w327 W ∧ Blk W g113 30 [(.int .i64 sg88.index), (.slice A76 n77 c78), (.slice A79 n80 c81), (.slice A82 n83 c84)] ∧ Blk W g53 37 (byteVals (pubF sd many used))) (fun i => i == 8) 9 #[false, false, false, false, false, false, false, false, false] rfl rfl rfl ?_
            rw [e329]; clear e329
            refine any_have (n1 := 3) (L1 := #[true, true, true, true, true, true, false, false, false]) (fun a' W => ∃ (A362 : Option Addr) (c363 : Nat) (g391 : Nat), Sl 127 [(0, (.agg #[(.slice A sd.length c), (.int .i64 many), (.int .i64 used)])), (1, (.slice B msg.length bc)), (2, (.int .i64 kd)), (3, (.int .i64 x)), (4, (.pointer (some ⟨g2, 0, none⟩))), (8, (.bool false)), (9, (.pointer (some ⟨g53, 0, none⟩))), (10, (.int .i64 (pubE sd many used))), (11, (.pointer (some ⟨g113, 0, none⟩))), (12, (.int .i64 (signE sd many used 0 msg))), (13, (.int .i64 many)), (15, (.bool false)), (19, (.bool (!(decide (((many ≤ 2 ∧ ((sd.length : Nat) : Int) ≤ 100) ∧ ((msg.length : Nat) : Int) ≤ 300)))))), (48, (.bool (decide (((n80 : Nat) : Int) = (0 : Int))))), (57, (.int .i64 kd)), (63, (.bool (decide ((kd : Int) = (0 : Int))))), (73, (.bool (decide ((kd : Int) = (1 : Int))))), (78, (.slice A362 (0 + n80) c363)), (80, (.slice (some ⟨g391, 0, none⟩) 1 1))] a' ∧ Ext w327 W ∧ Blk W g391 37 (byteVals ((pubF sd many used))) ∧ w327.heap.size ≤ g391 ∧ W.ownsRow w327.heap.size 37 32 (.slice A362 (0 + n80) c363) (0 + n80) (digVals sg88.cl) ∧ some g391 ≠ (Value.slice A362 (0 + n80) c363).ownBlock) ?_ (fun st429 => ?_)
            · skip
              rintro a430 w431 ⟨A362, c363, g391, F432, hx433, b434, z435, r436, nb437⟩
              clear F325
              have z438 := hx433.size
              have z439 := b434.lt
              have z440 := own_form0 r436
              refine any_one (i := 6) (by decide +kernel) rfl ?_
              have hf449 := r436
              have b450 := (((((b62.ext hx91).ext hx116).grownN hg123 (by omega)).ext hx328).ext hx433)
              have nb451 : some g53 ≠ (Value.slice A362 (0 + n80) c363).ownBlock := (own_ne r436 (by omega : g53 < w327.heap.size))
              have z452 := b450.lt
              have nb453 : some g391 ≠ (Value.slice A362 (0 + n80) c363).ownBlock := nb437
              have z454 := b434.lt
              refine o_appB (zs := digVals (sg88.cl ++ ([pubF sd many used]))) El28 F432 rfl rfl rfl rfl rfl (F432.get rfl) (F432.get rfl) hf449 (Fl.cel (Fl.digblk (S := fun b => b = g391) b434 (All32.sing (pubF_len _ _ _)) (by simp [digVals, byteVals]))).2.2 (by omega) (by omega) (by omega) (digVals_app _ _) ?_
              intro A441 c442 w443 a455 F456 r444 hg445 z446 z447 hnb448; clear F432; have z457 := hg445.size
              have nb458 := hnb448 g53 (by omega) nb451
              have nb459 := hnb448 g391 (by omega) nb453
              have b460 := (grown_blk hf449 hg445 ((b122.ext hx328).ext hx433) (by decide))
              have b461 := (b450.grown hg445 nb451)
              refine ⟨fun _ _ => ⟨(ext_row ((Ext.refl w327).trans hx433) hg445 hf449 (by omega)), b460, b461⟩, ?_⟩
              refine qp 7 (.pointer (some ⟨g113, 2, none⟩)) F456 rfl rfl (fun W => (rn_field Tryd.underlying30 rfl (by kernel_rfl) (F456.get rfl) rfl)) fun _ F463 => ?_; clear F456
              refine any_one (i := 8) (by decide +kernel) rfl ?_
              refine o_store1 (new := [(.int .i64 sg88.index), (.slice A76 n77 c78), (.slice A441 ((0 + n80) + 1) c442), (.slice A82 n83 c84)]) F463 rfl rfl rfl rfl (F463.get rfl) (F463.get rfl) b460 inf28 (by simp) rfl rfl ?_
              intro w464 b465 hg466; have z467 := hg466.size
              refine ⟨fun h => absurd h (by decide), ?_⟩
              refine any_nil (by decide +kernel) ?_
              refine hK265 _ _ ?_
              clear hK265
              have F468 := (((((((((((((((((F463.nil.c F463 73 rfl).c F463 63 rfl).c F463 57 rfl).c F463 48 rfl).c F463 19 rfl).c F463 15 rfl).c F463 13 rfl).c F463 12 rfl).c F463 11 rfl).c F463 10 rfl).c F463 9 rfl).c F463 8 rfl).c F463 4 rfl).c F463 3 rfl).c F463 2 rfl).c F463 1 rfl).c F463 0 rfl)
              clear F463
              refine wp_seq_k (fun K469 hK469 => ?_)
              refine wp_region_lit ?_
              have b470 := (b461.grownN hg466 (by omega))
              refine qv 0 (.agg (byteVals (pubF sd many used)).toArray) F468 rfl (rn_loadBlk (F468.get rfl) b470 Tryd.underlying37 rfl (inf37.trans (congrArg some (byteVals_len (pubF_len _ _ _)).symm))) fun _ F472 => ?_; clear F468
              refine qv 1 (.int .i64 many) F472 rfl (rn_move (F472.get rfl)) fun _ F474 => ?_; clear F472
              refine qv 2 (.slice B msg.length bc) F474 rfl (rn_move (F474.get rfl)) fun _ F476 => ?_; clear F474
              refine qv 3 (.agg #[(.int .i64 sg88.index), (.slice A76 n77 c78), (.slice A441 ((0 + n80) + 1) c442), (.slice A82 n83 c84)]) F476 rfl (rn_loadBlk (F476.get rfl) b465 Tryd.underlying30 rfl inf30) fun _ F478 => ?_; clear F476
              have d479 := (hmk.pres ((Pres.row ((((((((((((Pres.refl w).ext hx5).ext hx15).ext hx29).ext hx43).ext hx56).grownN hg63 (fun h => by simp only [Clip] at h; omega)).ext hx91).ext hx116).grownN hg123 (fun h => by simp only [Clip] at h; omega)).ext hx328).ext hx433) hg445 hf449 (fun b hb h => by simp only [Clip] at h; omega)).grownN hg466 (fun h => by simp only [Clip] at h; omega)))
              have d480 := (hf104.pres ((Pres.row (((((Pres.refl w90).ext hx116).grownN hg123 (fun h => by simp only [Clip] at h; omega)).ext hx328).ext hx433) hg445 hf449 (fun b hb h => by simp only [Clip] at h; omega)).grownN hg466 (fun h => by simp only [Clip] at h; omega)))
              have r481 := (own_grownT r444 b460 hg466 (by decide))
              have d482 := (hf106.pres ((Pres.row (((((Pres.refl w90).ext hx116).grownN hg123 (fun h => by simp only [Clip] at h; omega)).ext hx328).ext hx433) hg445 hf449 (fun b hb h => by simp only [Clip] at h; omega)).grownN hg466 (fun h => by simp only [Clip] at h; omega)))
              refine wpl_op (i := 4) rfl (o_call F478 rfl rfl rfl rfl (rn_call (args4 (F478.get rfl) (F478.get rfl) (F478.get rfl) (F478.get rfl)) rfl (by kernel_rfl)) (verify_at (v := (.slice B msg.length bc)) (m := msg.length) (u1 := (.slice A76 n77 c78)) (u2 := (.slice A441 ((0 + n80) + 1) c442)) (u3 := (.slice A82 n83 c84)) (n1 := n77) (n2 := (0 + n80) + 1) (n3 := n83) (pubF sd many used) many msg ⟨sg88.index, sg88.op, sg88.cl ++ ([pubF sd many used]), sg88.path⟩ _ (pubF_len _ _ _) d479 d480 (Fl.own (S := fun b => w327.heap.size ≤ b) r481 (fun b hb => hb) (digVals_one _)) d482 h3292 (All32.app h3295 (All32.sing (pubF_len _ _ _))) h3298 (hG.ext ((ext_row ((((((((((((Ext.refl w).trans hx5).trans hx15).trans hx29).trans hx43).trans hx56).grownN hg63 (by omega)).trans hx91).trans hx116).grownN hg123 (by omega)).trans hx328).trans hx433) hg445 hf449 (by omega)).grownN hg466 (by omega)))) ?_)
              rintro _ w483 ⟨rfl, hx484⟩
              refine ⟨_, rfl, ?_⟩; intro a485 F486; clear F478; have z487 := hx484.size
              refine qv 5 (.bool (!(verifyF (pubF sd many used) many msg ⟨sg88.index, sg88.op, sg88.cl ++ ([pubF sd many used]), sg88.path⟩))) F486 rfl (rn_not' (F486.get rfl) rfl) fun _ F489 => ?_; clear F486
              refine qv 6 (.bool (!(verifyF (pubF sd many used) many msg ⟨sg88.index, sg88.op, sg88.cl ++ ([pubF sd many used]), sg88.path⟩))) F489 rfl (rn_assign (F489.get rfl)) fun _ F491 => ?_; clear F489
              refine wpList_nil ?_
              refine hK469 _ _ ?_
              clear hK469
              have F492 := (((((((((((((((((F491.nil.c F491 73 rfl).c F491 63 rfl).c F491 57 rfl).c F491 48 rfl).c F491 19 rfl).c F491 15 rfl).c F491 13 rfl).c F491 12 rfl).c F491 11 rfl).c F491 10 rfl).c F491 9 rfl).c F491 8 rfl).c F491 4 rfl).c F491 3 rfl).c F491 2 rfl).c F491 1 rfl).c F491 0 rfl)
              clear F491
              refine wp_ret ?_
              refine ret1 F492 rfl rfl ?_
              exact ⟨congrArg (fun b => Ending.returned (.bool b)) ((not_f ((verify_not (by unfold vShape; (try simp only [List.length_take, List.length_append, List.length_cons, List.length_nil]); omega)) : verifyF (pubF sd many used) many msg ⟨sg88.index, sg88.op, sg88.cl ++ ([pubF sd many used]), sg88.path⟩ = false)) : (!(verifyF (pubF sd many used) many msg ⟨sg88.index, sg88.op, sg88.cl ++ ([pubF sd many used]), sg88.path⟩)) = true), (((ext_row ((((((((((((Ext.refl w).trans hx5).trans hx15).trans hx29).trans hx43).trans hx56).grownN hg63 (by omega)).trans hx91).trans hx116).grownN hg123 (by omega)).trans hx328).trans hx433) hg445 hf449 (by omega)).grownN hg466 (by omega)).trans hx484)⟩
            refine any_have (n1 := 4) (L1 := #[true, true, true, false, true, true, false, false, false]) (fun a' W => ∃ (g340 : Nat) (g380 : Nat), Sl 127 [(0, (.agg #[(.slice A sd.length c), (.int .i64 many), (.int .i64 used)])), (1, (.slice B msg.length bc)), (2, (.int .i64 kd)), (3, (.int .i64 x)), (4, (.pointer (some ⟨g2, 0, none⟩))), (8, (.bool false)), (9, (.pointer (some ⟨g53, 0, none⟩))), (10, (.int .i64 (pubE sd many used))), (11, (.pointer (some ⟨g113, 0, none⟩))), (12, (.int .i64 (signE sd many used 0 msg))), (13, (.int .i64 many)), (15, (.bool false)), (19, (.bool (!(decide (((many ≤ 2 ∧ ((sd.length : Nat) : Int) ≤ 100) ∧ ((msg.length : Nat) : Int) ≤ 300)))))), (48, (.bool (decide (((n80 : Nat) : Int) = (0 : Int))))), (57, (.int .i64 kd)), (63, (.bool (decide ((kd : Int) = (0 : Int))))), (73, (.bool (decide ((kd : Int) = (1 : Int))))), (75, (.slice (some ⟨g340, 0, none⟩) 0 0)), (77, (.slice A79 n80 c81)), (80, (.slice (some ⟨g380, 0, none⟩) 1 1))] a' ∧ Ext w327 W ∧ Blk W g340 37 [] ∧ w327.heap.size ≤ g340 ∧ Blk W g380 37 (byteVals ((pubF sd many used))) ∧ w327.heap.size ≤ g380 ∧ g340 ≠ g380) ?_ (fun st493 => ?_)
            · skip
              rintro a494 w495 ⟨g340, g380, F496, hx497, b498, z499, b500, z501, z502⟩
              clear F325
              have z503 := hx497.size
              have z504 := b498.lt
              have z505 := b500.lt
              refine any_one (i := 3) (by decide +kernel) rfl ?_
              have d507 := (hf105.pres (((((Pres.refl w90).ext hx116).grownN hg123 (fun h => by simp only [Clip] at h; omega)).ext hx328).ext hx497))
              have hf516 := (own_blk0 (k := 32) b498)
              have b517 := (((((b62.ext hx91).ext hx116).grownN hg123 (by omega)).ext hx328).ext hx497)
              have nb518 : some g53 ≠ (Value.slice (some ⟨g340, 0, none⟩) 0 0).ownBlock := (ne_slice (n := 0) (c := 0) (by omega : g53 ≠ g340))
              have z519 := b517.lt
              have nb520 : some g380 ≠ (Value.slice (some ⟨g340, 0, none⟩) 0 0).ownBlock := (ne_slice (n := 0) (c := 0) (by omega : g380 ≠ g340))
              have z521 := b500.lt
              refine o_appB (zs := digVals sg88.cl) El28 F496 rfl rfl rfl rfl rfl (F496.get rfl) (F496.get rfl) hf516 (Fl.cel d507).2.2 (by omega) (by omega) (by omega) (List.nil_append _) ?_
              intro A508 c509 w510 a522 F523 r511 hg512 z513 z514 hnb515; clear F496; have z524 := hg512.size
              have nb525 := hnb515 g53 (by omega) nb518
              have nb526 := hnb515 g380 (by omega) nb520
              have hg527 : w495.grownBy w510 (some g340) := hg512
              have b528 := (((b122.ext hx328).ext hx497).grownN hg527 (by omega))
              have b529 := (b517.grown hg512 nb518)
              refine ⟨fun _ _ => ⟨(((Ext.refl w327).trans hx497).grownN hg527 (by omega)), b528, b529⟩, ?_⟩
              have b530 := (b500.grown hg512 nb520)
              exact st429 _ _ ⟨A508, c509, g380, (((((((((((((((((((F523.nil.c F523 80 rfl).c F523 78 rfl).c F523 73 rfl).c F523 63 rfl).c F523 57 rfl).c F523 48 rfl).c F523 19 rfl).c F523 15 rfl).c F523 13 rfl).c F523 12 rfl).c F523 11 rfl).c F523 10 rfl).c F523 9 rfl).c F523 8 rfl).c F523 4 rfl).c F523 3 rfl).c F523 2 rfl).c F523 1 rfl).c F523 0 rfl), (((Ext.refl w327).trans hx497).grownN hg527 (by omega)), b530, (by omega), (own_base r511 (by omega)), nb526⟩
            refine qp 1 (.pointer (some ⟨g113, 2, none⟩)) F325 rfl rfl (fun W => (rn_field Tryd.underlying30 rfl (by kernel_rfl) (F325.get rfl) rfl)) fun _ F532 => ?_; clear F325
            have b534 := (b122.ext hx328)
            have b535 := ((((b62.ext hx91).ext hx116).grownN hg123 (by omega)).ext hx328)
            have hS533 : Ext w327 w327 ∧ Blk w327 g113 30 [(.int .i64 sg88.index), (.slice A76 n77 c78), (.slice A79 n80 c81), (.slice A82 n83 c84)] ∧ Blk w327 g53 37 (byteVals (pubF sd many used)) := ⟨(Ext.refl w327), b534, b535⟩
            refine qs 2 (.slice A79 n80 c81) F532 rfl rfl hS533 (fun W hW => (rn_load (isAgg_no Tryd.underlying28 rfl) (F532.get rfl) (hW.2.1.rule.1 2))) fun _ F537 => ?_; clear F532
            refine qs 4 (.agg (byteVals (pubF sd many used)).toArray) F537 rfl rfl hS533 (fun W hW => (rn_loadBlk (F537.get rfl) hW.2.2 Tryd.underlying37 rfl (inf37.trans (congrArg some (byteVals_len (pubF_len _ _ _)).symm)))) fun _ F539 => ?_; clear F537
            refine any_two (i := 0) (k := 5) (by decide +kernel) rfl rfl ?_ ?_
            · skip
              refine o_new (fun g => (.slice (some ⟨g, 0, none⟩) 0 0)) [] 37 F539 rfl rfl rfl rfl (rn_buildSlice (parts0 ) (by kernel_rfl)) ?_
              intro g540 w541 a546 F547 z544 z545 b542 hx543; clear F539
              have b548 := (b534.ext hx543)
              have b549 := (b535.ext hx543)
              refine ⟨fun _ _ => ⟨((Ext.refl w327).trans hx543), b548, b549⟩, ?_⟩
              refine any_two (i := 3) (k := 5) (by decide +kernel) rfl rfl ?_ ?_
              · skip
                have d551 := (hf105.pres (((((Pres.refl w90).ext hx116).grownN hg123 (fun h => by simp only [Clip] at h; omega)).ext hx328).ext hx543))
                have hf560 := (own_blk0 (k := 32) b542)
                have nb561 : some g53 ≠ (Value.slice (some ⟨g540, 0, none⟩) 0 0).ownBlock := (ne_slice (n := 0) (c := 0) (by omega : g53 ≠ g540))
                have z562 := b549.lt
                refine o_appB (zs := digVals sg88.cl) El28 F547 rfl rfl rfl rfl rfl (F547.get rfl) (F547.get rfl) hf560 (Fl.cel d551).2.2 (by omega) (by omega) (by omega) (List.nil_append _) ?_
                intro A552 c553 w554 a563 F564 r555 hg556 z557 z558 hnb559; clear F547; have z565 := hg556.size
                have nb566 := hnb559 g53 (by omega) nb561
                have hg567 : w541.grownBy w554 (some g540) := hg556
                have b568 := (b548.grownN hg567 (by omega))
                have b569 := (b549.grown hg556 nb561)
                refine ⟨fun _ _ => ⟨(((Ext.refl w327).trans hx543).grownN hg567 (by omega)), b568, b569⟩, ?_⟩
                refine any_one (i := 5) (by decide +kernel) rfl ?_
                have hf570 := r555
                refine o_new (fun g => (.slice (some ⟨g, 0, none⟩) 1 1)) (byteVals ((pubF sd many used))) 37 F564 rfl rfl rfl rfl (rn_buildSlice (parts1 (F564.get rfl)) (build_wholeE (vs := [(.agg (byteVals (pubF sd many used)).toArray)]) El28 rfl rfl (fun v hv => by rw [List.mem_singleton.1 hv]; exact (byteVals_len (pubF_len _ _ _))) (by decide) (by decide) (by simp [Value.cells, byteVals]))) ?_
                intro g571 w572 a577 F578 z575 z576 b573 hx574; clear F564
                have nb579 := own_new (g := g571) hf570 (by omega)
                have b580 := (b568.ext hx574)
                have b581 := (b569.ext hx574)
                refine ⟨fun _ _ => ⟨((((Ext.refl w327).trans hx543).grownN hg567 (by omega)).trans hx574), b580, b581⟩, ?_⟩
                have r582 := (own_ext r555 hx574)
                exact st429 _ _ ⟨A552, c553, g571, (((((((((((((((((((F578.nil.c F578 80 rfl).c F578 78 rfl).c F578 73 rfl).c F578 63 rfl).c F578 57 rfl).c F578 48 rfl).c F578 19 rfl).c F578 15 rfl).c F578 13 rfl).c F578 12 rfl).c F578 11 rfl).c F578 10 rfl).c F578 9 rfl).c F578 8 rfl).c F578 4 rfl).c F578 3 rfl).c F578 2 rfl).c F578 1 rfl).c F578 0 rfl), ((((Ext.refl w327).trans hx543).grownN hg567 (by omega)).trans hx574), b573, (by omega), (own_base r582 (by omega)), nb579⟩
              · skip
                refine o_new (fun g => (.slice (some ⟨g, 0, none⟩) 1 1)) (byteVals ((pubF sd many used))) 37 F547 rfl rfl rfl rfl (rn_buildSlice (parts1 (F547.get rfl)) (build_wholeE (vs := [(.agg (byteVals (pubF sd many used)).toArray)]) El28 rfl rfl (fun v hv => by rw [List.mem_singleton.1 hv]; exact (byteVals_len (pubF_len _ _ _))) (by decide) (by decide) (by simp [Value.cells, byteVals]))) ?_
                intro g583 w584 a589 F590 z587 z588 b585 hx586; clear F547
                have b591 := (b548.ext hx586)
                have b592 := (b549.ext hx586)
                refine ⟨fun _ _ => ⟨(((Ext.refl w327).trans hx543).trans hx586), b591, b592⟩, ?_⟩
                have b593 := (b542.ext hx586)
                exact st493 _ _ ⟨g540, g583, ((((((((((((((((((((F590.nil.c F590 80 rfl).c F590 77 rfl).c F590 75 rfl).c F590 73 rfl).c F590 63 rfl).c F590 57 rfl).c F590 48 rfl).c F590 19 rfl).c F590 15 rfl).c F590 13 rfl).c F590 12 rfl).c F590 11 rfl).c F590 10 rfl).c F590 9 rfl).c F590 8 rfl).c F590 4 rfl).c F590 3 rfl).c F590 2 rfl).c F590 1 rfl).c F590 0 rfl), (((Ext.refl w327).trans hx543).trans hx586), b593, (by omega), b585, (by omega), (by omega)⟩
            · skip
              refine o_new (fun g => (.slice (some ⟨g, 0, none⟩) 1 1)) (byteVals ((pubF sd many used))) 37 F539 rfl rfl rfl rfl (rn_buildSlice (parts1 (F539.get rfl)) (build_wholeE (vs := [(.agg (byteVals (pubF sd many used)).toArray)]) El28 rfl rfl (fun v hv => by rw [List.mem_singleton.1 hv]; exact (byteVals_len (pubF_len _ _ _))) (by decide) (by decide) (by simp [Value.cells, byteVals]))) ?_
              intro g594 w595 a600 F601 z598 z599 b596 hx597; clear F539
              have b602 := (b534.ext hx597)
              have b603 := (b535.ext hx597)
              refine ⟨fun _ _ => ⟨((Ext.refl w327).trans hx597), b602, b603⟩, ?_⟩
              refine any_one (i := 0) (by decide +kernel) rfl ?_
              refine o_new (fun g => (.slice (some ⟨g, 0, none⟩) 0 0)) [] 37 F601 rfl rfl rfl rfl (rn_buildSlice (parts0 ) (by kernel_rfl)) ?_
              intro g604 w605 a610 F611 z608 z609 b606 hx607; clear F601
              have b612 := (b602.ext hx607)
              have b613 := (b603.ext hx607)
              refine ⟨fun _ _ => ⟨(((Ext.refl w327).trans hx597).trans hx607), b612, b613⟩, ?_⟩
              have b614 := (b596.ext hx607)
              exact st493 _ _ ⟨g604, g594, ((((((((((((((((((((F611.nil.c F611 80 rfl).c F611 77 rfl).c F611 75 rfl).c F611 73 rfl).c F611 63 rfl).c F611 57 rfl).c F611 48 rfl).c F611 19 rfl).c F611 15 rfl).c F611 13 rfl).c F611 12 rfl).c F611 11 rfl).c F611 10 rfl).c F611 9 rfl).c F611 8 rfl).c F611 4 rfl).c F611 3 rfl).c F611 2 rfl).c F611 1 rfl).c F611 0 rfl), (((Ext.refl w327).trans hx597).trans hx607), b606, (by omega), b614, (by omega), (by omega)⟩
          · skip
            refine wp_cond_false (c_false F325 rfl (decide_eq_false hc326)) ?_
            refine wp_seq_k (fun K615 hK615 => ?_)
            refine wp_region_lit ?_
            refine qv 0 (.bool (decide ((kd : Int) = (2 : Int)))) F325 rfl (rn_eql (F325.get rfl) rfl) fun _ F617 => ?_; clear F325
            refine qv 1 (.bool (decide ((kd : Int) = (2 : Int)))) F617 rfl (rn_assign (F617.get rfl)) fun _ F619 => ?_; clear F617
            refine wpList_nil ?_
            refine hK615 _ _ ?_
            clear hK615
            by_cases hc620 : (kd : Int) = (2 : Int)
            · skip
              refine wp_cond_true (c_true F619 rfl (decide_eq_true hc620)) ?_
              have hx622 : ∃ W, w121.drew = W ∧ Ext w121 W := ⟨_, rfl, (Ext.refl _).drew⟩
              obtain ⟨w621, e623, hx622⟩ := hx622
              have z624 := hx622.size
              refine any_start (fun W => Ext w621 W ∧ Blk W g113 30 [(.int .i64 sg88.index), (.slice A76 n77 c78), (.slice A79 n80 c81), (.slice A82 n83 c84)] ∧ Blk W g53 37 (byteVals (pubF sd many used))) (fun i => i == 8) 9 #[false, false, false, false, false, false, false, false, false] rfl rfl rfl ?_
              rw [e623]; clear e623
              refine any_have (n1 := 3) (L1 := #[true, true, true, true, true, true, false, false, false]) (fun a' W => ∃ (A656 : Option Addr) (c657 : Nat) (g685 : Nat), Sl 127 [(0, (.agg #[(.slice A sd.length c), (.int .i64 many), (.int .i64 used)])), (1, (.slice B msg.length bc)), (2, (.int .i64 kd)), (3, (.int .i64 x)), (4, (.pointer (some ⟨g2, 0, none⟩))), (8, (.bool false)), (9, (.pointer (some ⟨g53, 0, none⟩))), (10, (.int .i64 (pubE sd many used))), (11, (.pointer (some ⟨g113, 0, none⟩))), (12, (.int .i64 (signE sd many used 0 msg))), (13, (.int .i64 many)), (15, (.bool false)), (19, (.bool (!(decide (((many ≤ 2 ∧ ((sd.length : Nat) : Int) ≤ 100) ∧ ((msg.length : Nat) : Int) ≤ 300)))))), (48, (.bool (decide (((n80 : Nat) : Int) = (0 : Int))))), (57, (.int .i64 kd)), (63, (.bool (decide ((kd : Int) = (0 : Int))))), (73, (.bool (decide ((kd : Int) = (1 : Int))))), (83, (.bool (decide ((kd : Int) = (2 : Int))))), (88, (.slice A656 (0 + n83) c657)), (90, (.slice (some ⟨g685, 0, none⟩) 1 1))] a' ∧ Ext w621 W ∧ Blk W g685 37 (byteVals ((pubF sd many used))) ∧ w621.heap.size ≤ g685 ∧ W.ownsRow w621.heap.size 37 32 (.slice A656 (0 + n83) c657) (0 + n83) (digVals sg88.path) ∧ some g685 ≠ (Value.slice A656 (0 + n83) c657).ownBlock) ?_ (fun st723 => ?_)
              · skip
                rintro a724 w725 ⟨A656, c657, g685, F726, hx727, b728, z729, r730, nb731⟩
                clear F619
                have z732 := hx727.size
                have z733 := b728.lt
                have z734 := own_form0 r730
                refine any_one (i := 6) (by decide +kernel) rfl ?_
                have hf743 := r730
                have b744 := (((((b62.ext hx91).ext hx116).grownN hg123 (by omega)).ext hx622).ext hx727)
                have nb745 : some g53 ≠ (Value.slice A656 (0 + n83) c657).ownBlock := (own_ne r730 (by omega : g53 < w621.heap.size))
                have z746 := b744.lt
                have nb747 : some g685 ≠ (Value.slice A656 (0 + n83) c657).ownBlock := nb731
                have z748 := b728.lt
                refine o_appB (zs := digVals (sg88.path ++ ([pubF sd many used]))) El28 F726 rfl rfl rfl rfl rfl (F726.get rfl) (F726.get rfl) hf743 (Fl.cel (Fl.digblk (S := fun b => b = g685) b728 (All32.sing (pubF_len _ _ _)) (by simp [digVals, byteVals]))).2.2 (by omega) (by omega) (by omega) (digVals_app _ _) ?_
                intro A735 c736 w737 a749 F750 r738 hg739 z740 z741 hnb742; clear F726; have z751 := hg739.size
                have nb752 := hnb742 g53 (by omega) nb745
                have nb753 := hnb742 g685 (by omega) nb747
                have b754 := (grown_blk hf743 hg739 ((b122.ext hx622).ext hx727) (by decide))
                have b755 := (b744.grown hg739 nb745)
                refine ⟨fun _ _ => ⟨(ext_row ((Ext.refl w621).trans hx727) hg739 hf743 (by omega)), b754, b755⟩, ?_⟩
                refine qp 7 (.pointer (some ⟨g113, 3, none⟩)) F750 rfl rfl (fun W => (rn_field Tryd.underlying30 rfl (by kernel_rfl) (F750.get rfl) rfl)) fun _ F757 => ?_; clear F750
                refine any_one (i := 8) (by decide +kernel) rfl ?_
                refine o_store1 (new := [(.int .i64 sg88.index), (.slice A76 n77 c78), (.slice A79 n80 c81), (.slice A735 ((0 + n83) + 1) c736)]) F757 rfl rfl rfl rfl (F757.get rfl) (F757.get rfl) b754 inf28 (by simp) rfl rfl ?_
                intro w758 b759 hg760; have z761 := hg760.size
                refine ⟨fun h => absurd h (by decide), ?_⟩
                refine any_nil (by decide +kernel) ?_
                refine hK265 _ _ ?_
                clear hK265
                have F762 := ((((((((((((((((((F757.nil.c F757 83 rfl).c F757 73 rfl).c F757 63 rfl).c F757 57 rfl).c F757 48 rfl).c F757 19 rfl).c F757 15 rfl).c F757 13 rfl).c F757 12 rfl).c F757 11 rfl).c F757 10 rfl).c F757 9 rfl).c F757 8 rfl).c F757 4 rfl).c F757 3 rfl).c F757 2 rfl).c F757 1 rfl).c F757 0 rfl)
                clear F757
                refine wp_seq_k (fun K763 hK763 => ?_)
                refine wp_region_lit ?_
                have b764 := (b755.grownN hg760 (by omega))
                refine qv 0 (.agg (byteVals (pubF sd many used)).toArray) F762 rfl (rn_loadBlk (F762.get rfl) b764 Tryd.underlying37 rfl (inf37.trans (congrArg some (byteVals_len (pubF_len _ _ _)).symm))) fun _ F766 => ?_; clear F762
                refine qv 1 (.int .i64 many) F766 rfl (rn_move (F766.get rfl)) fun _ F768 => ?_; clear F766
                refine qv 2 (.slice B msg.length bc) F768 rfl (rn_move (F768.get rfl)) fun _ F770 => ?_; clear F768
                refine qv 3 (.agg #[(.int .i64 sg88.index), (.slice A76 n77 c78), (.slice A79 n80 c81), (.slice A735 ((0 + n83) + 1) c736)]) F770 rfl (rn_loadBlk (F770.get rfl) b759 Tryd.underlying30 rfl inf30) fun _ F772 => ?_; clear F770
                have d773 := (hmk.pres ((Pres.row ((((((((((((Pres.refl w).ext hx5).ext hx15).ext hx29).ext hx43).ext hx56).grownN hg63 (fun h => by simp only [Clip] at h; omega)).ext hx91).ext hx116).grownN hg123 (fun h => by simp only [Clip] at h; omega)).ext hx622).ext hx727) hg739 hf743 (fun b hb h => by simp only [Clip] at h; omega)).grownN hg760 (fun h => by simp only [Clip] at h; omega)))
                have d774 := (hf104.pres ((Pres.row (((((Pres.refl w90).ext hx116).grownN hg123 (fun h => by simp only [Clip] at h; omega)).ext hx622).ext hx727) hg739 hf743 (fun b hb h => by simp only [Clip] at h; omega)).grownN hg760 (fun h => by simp only [Clip] at h; omega)))
                have d775 := (hf105.pres ((Pres.row (((((Pres.refl w90).ext hx116).grownN hg123 (fun h => by simp only [Clip] at h; omega)).ext hx622).ext hx727) hg739 hf743 (fun b hb h => by simp only [Clip] at h; omega)).grownN hg760 (fun h => by simp only [Clip] at h; omega)))
                have r776 := (own_grownT r738 b754 hg760 (by decide))
                refine wpl_op (i := 4) rfl (o_call F772 rfl rfl rfl rfl (rn_call (args4 (F772.get rfl) (F772.get rfl) (F772.get rfl) (F772.get rfl)) rfl (by kernel_rfl)) (verify_at (v := (.slice B msg.length bc)) (m := msg.length) (u1 := (.slice A76 n77 c78)) (u2 := (.slice A79 n80 c81)) (u3 := (.slice A735 ((0 + n83) + 1) c736)) (n1 := n77) (n2 := n80) (n3 := (0 + n83) + 1) (pubF sd many used) many msg ⟨sg88.index, sg88.op, sg88.cl, sg88.path ++ ([pubF sd many used])⟩ _ (pubF_len _ _ _) d773 d774 d775 (Fl.own (S := fun b => w621.heap.size ≤ b) r776 (fun b hb => hb) (digVals_one _)) h3292 h3295 (All32.app h3298 (All32.sing (pubF_len _ _ _))) (hG.ext ((ext_row ((((((((((((Ext.refl w).trans hx5).trans hx15).trans hx29).trans hx43).trans hx56).grownN hg63 (by omega)).trans hx91).trans hx116).grownN hg123 (by omega)).trans hx622).trans hx727) hg739 hf743 (by omega)).grownN hg760 (by omega)))) ?_)
                rintro _ w777 ⟨rfl, hx778⟩
                refine ⟨_, rfl, ?_⟩; intro a779 F780; clear F772; have z781 := hx778.size
                refine qv 5 (.bool (!(verifyF (pubF sd many used) many msg ⟨sg88.index, sg88.op, sg88.cl, sg88.path ++ ([pubF sd many used])⟩))) F780 rfl (rn_not' (F780.get rfl) rfl) fun _ F783 => ?_; clear F780
                refine qv 6 (.bool (!(verifyF (pubF sd many used) many msg ⟨sg88.index, sg88.op, sg88.cl, sg88.path ++ ([pubF sd many used])⟩))) F783 rfl (rn_assign (F783.get rfl)) fun _ F785 => ?_; clear F783
                refine wpList_nil ?_
                refine hK763 _ _ ?_
                clear hK763
                have F786 := ((((((((((((((((((F785.nil.c F785 83 rfl).c F785 73 rfl).c F785 63 rfl).c F785 57 rfl).c F785 48 rfl).c F785 19 rfl).c F785 15 rfl).c F785 13 rfl).c F785 12 rfl).c F785 11 rfl).c F785 10 rfl).c F785 9 rfl).c F785 8 rfl).c F785 4 rfl).c F785 3 rfl).c F785 2 rfl).c F785 1 rfl).c F785 0 rfl)
                clear F785
                refine wp_ret ?_
                refine ret1 F786 rfl rfl ?_
                exact ⟨congrArg (fun b => Ending.returned (.bool b)) ((not_f ((by rw [hsg89]; exact verify_long hz1 _) : verifyF (pubF sd many used) many msg ⟨sg88.index, sg88.op, sg88.cl, sg88.path ++ ([pubF sd many used])⟩ = false)) : (!(verifyF (pubF sd many used) many msg ⟨sg88.index, sg88.op, sg88.cl, sg88.path ++ ([pubF sd many used])⟩)) = true), (((ext_row ((((((((((((Ext.refl w).trans hx5).trans hx15).trans hx29).trans hx43).trans hx56).grownN hg63 (by omega)).trans hx91).trans hx116).grownN hg123 (by omega)).trans hx622).trans hx727) hg739 hf743 (by omega)).grownN hg760 (by omega)).trans hx778)⟩
              refine any_have (n1 := 4) (L1 := #[true, true, true, false, true, true, false, false, false]) (fun a' W => ∃ (g634 : Nat) (g674 : Nat), Sl 127 [(0, (.agg #[(.slice A sd.length c), (.int .i64 many), (.int .i64 used)])), (1, (.slice B msg.length bc)), (2, (.int .i64 kd)), (3, (.int .i64 x)), (4, (.pointer (some ⟨g2, 0, none⟩))), (8, (.bool false)), (9, (.pointer (some ⟨g53, 0, none⟩))), (10, (.int .i64 (pubE sd many used))), (11, (.pointer (some ⟨g113, 0, none⟩))), (12, (.int .i64 (signE sd many used 0 msg))), (13, (.int .i64 many)), (15, (.bool false)), (19, (.bool (!(decide (((many ≤ 2 ∧ ((sd.length : Nat) : Int) ≤ 100) ∧ ((msg.length : Nat) : Int) ≤ 300)))))), (48, (.bool (decide (((n80 : Nat) : Int) = (0 : Int))))), (57, (.int .i64 kd)), (63, (.bool (decide ((kd : Int) = (0 : Int))))), (73, (.bool (decide ((kd : Int) = (1 : Int))))), (83, (.bool (decide ((kd : Int) = (2 : Int))))), (85, (.slice (some ⟨g634, 0, none⟩) 0 0)), (87, (.slice A82 n83 c84)), (90, (.slice (some ⟨g674, 0, none⟩) 1 1))] a' ∧ Ext w621 W ∧ Blk W g634 37 [] ∧ w621.heap.size ≤ g634 ∧ Blk W g674 37 (byteVals ((pubF sd many used))) ∧ w621.heap.size ≤ g674 ∧ g634 ≠ g674) ?_ (fun st787 => ?_)
              · skip
                rintro a788 w789 ⟨g634, g674, F790, hx791, b792, z793, b794, z795, z796⟩
                clear F619
                have z797 := hx791.size
                have z798 := b792.lt
                have z799 := b794.lt
                refine any_one (i := 3) (by decide +kernel) rfl ?_
                have d801 := (hf106.pres (((((Pres.refl w90).ext hx116).grownN hg123 (fun h => by simp only [Clip] at h; omega)).ext hx622).ext hx791))
                have hf810 := (own_blk0 (k := 32) b792)
                have b811 := (((((b62.ext hx91).ext hx116).grownN hg123 (by omega)).ext hx622).ext hx791)
                have nb812 : some g53 ≠ (Value.slice (some ⟨g634, 0, none⟩) 0 0).ownBlock := (ne_slice (n := 0) (c := 0) (by omega : g53 ≠ g634))
                have z813 := b811.lt
                have nb814 : some g674 ≠ (Value.slice (some ⟨g634, 0, none⟩) 0 0).ownBlock := (ne_slice (n := 0) (c := 0) (by omega : g674 ≠ g634))
                have z815 := b794.lt
                refine o_appB (zs := digVals sg88.path) El28 F790 rfl rfl rfl rfl rfl (F790.get rfl) (F790.get rfl) hf810 (Fl.cel d801).2.2 (by omega) (by omega) (by omega) (List.nil_append _) ?_
                intro A802 c803 w804 a816 F817 r805 hg806 z807 z808 hnb809; clear F790; have z818 := hg806.size
                have nb819 := hnb809 g53 (by omega) nb812
                have nb820 := hnb809 g674 (by omega) nb814
                have hg821 : w789.grownBy w804 (some g634) := hg806
                have b822 := (((b122.ext hx622).ext hx791).grownN hg821 (by omega))
                have b823 := (b811.grown hg806 nb812)
                refine ⟨fun _ _ => ⟨(((Ext.refl w621).trans hx791).grownN hg821 (by omega)), b822, b823⟩, ?_⟩
                have b824 := (b794.grown hg806 nb814)
                exact st723 _ _ ⟨A802, c803, g674, ((((((((((((((((((((F817.nil.c F817 90 rfl).c F817 88 rfl).c F817 83 rfl).c F817 73 rfl).c F817 63 rfl).c F817 57 rfl).c F817 48 rfl).c F817 19 rfl).c F817 15 rfl).c F817 13 rfl).c F817 12 rfl).c F817 11 rfl).c F817 10 rfl).c F817 9 rfl).c F817 8 rfl).c F817 4 rfl).c F817 3 rfl).c F817 2 rfl).c F817 1 rfl).c F817 0 rfl), (((Ext.refl w621).trans hx791).grownN hg821 (by omega)), b824, (by omega), (own_base r805 (by omega)), nb820⟩
              refine qp 1 (.pointer (some ⟨g113, 3, none⟩)) F619 rfl rfl (fun W => (rn_field Tryd.underlying30 rfl (by kernel_rfl) (F619.get rfl) rfl)) fun _ F826 => ?_; clear F619
              have b828 := (b122.ext hx622)
              have b829 := ((((b62.ext hx91).ext hx116).grownN hg123 (by omega)).ext hx622)
              have hS827 : Ext w621 w621 ∧ Blk w621 g113 30 [(.int .i64 sg88.index), (.slice A76 n77 c78), (.slice A79 n80 c81), (.slice A82 n83 c84)] ∧ Blk w621 g53 37 (byteVals (pubF sd many used)) := ⟨(Ext.refl w621), b828, b829⟩
              refine qs 2 (.slice A82 n83 c84) F826 rfl rfl hS827 (fun W hW => (rn_load (isAgg_no Tryd.underlying28 rfl) (F826.get rfl) (hW.2.1.rule.1 3))) fun _ F831 => ?_; clear F826
              refine qs 4 (.agg (byteVals (pubF sd many used)).toArray) F831 rfl rfl hS827 (fun W hW => (rn_loadBlk (F831.get rfl) hW.2.2 Tryd.underlying37 rfl (inf37.trans (congrArg some (byteVals_len (pubF_len _ _ _)).symm)))) fun _ F833 => ?_; clear F831
              refine any_two (i := 0) (k := 5) (by decide +kernel) rfl rfl ?_ ?_
              · skip
                refine o_new (fun g => (.slice (some ⟨g, 0, none⟩) 0 0)) [] 37 F833 rfl rfl rfl rfl (rn_buildSlice (parts0 ) (by kernel_rfl)) ?_
                intro g834 w835 a840 F841 z838 z839 b836 hx837; clear F833
                have b842 := (b828.ext hx837)
                have b843 := (b829.ext hx837)
                refine ⟨fun _ _ => ⟨((Ext.refl w621).trans hx837), b842, b843⟩, ?_⟩
                refine any_two (i := 3) (k := 5) (by decide +kernel) rfl rfl ?_ ?_
                · skip
                  have d845 := (hf106.pres (((((Pres.refl w90).ext hx116).grownN hg123 (fun h => by simp only [Clip] at h; omega)).ext hx622).ext hx837))
                  have hf854 := (own_blk0 (k := 32) b836)
                  have nb855 : some g53 ≠ (Value.slice (some ⟨g834, 0, none⟩) 0 0).ownBlock := (ne_slice (n := 0) (c := 0) (by omega : g53 ≠ g834))
                  have z856 := b843.lt
                  refine o_appB (zs := digVals sg88.path) El28 F841 rfl rfl rfl rfl rfl (F841.get rfl) (F841.get rfl) hf854 (Fl.cel d845).2.2 (by omega) (by omega) (by omega) (List.nil_append _) ?_
                  intro A846 c847 w848 a857 F858 r849 hg850 z851 z852 hnb853; clear F841; have z859 := hg850.size
                  have nb860 := hnb853 g53 (by omega) nb855
                  have hg861 : w835.grownBy w848 (some g834) := hg850
                  have b862 := (b842.grownN hg861 (by omega))
                  have b863 := (b843.grown hg850 nb855)
                  refine ⟨fun _ _ => ⟨(((Ext.refl w621).trans hx837).grownN hg861 (by omega)), b862, b863⟩, ?_⟩
                  refine any_one (i := 5) (by decide +kernel) rfl ?_
                  have hf864 := r849
                  refine o_new (fun g => (.slice (some ⟨g, 0, none⟩) 1 1)) (byteVals ((pubF sd many used))) 37 F858 rfl rfl rfl rfl (rn_buildSlice (parts1 (F858.get rfl)) (build_wholeE (vs := [(.agg (byteVals (pubF sd many used)).toArray)]) El28 rfl rfl (fun v hv => by rw [List.mem_singleton.1 hv]; exact (byteVals_len (pubF_len _ _ _))) (by decide) (by decide) (by simp [Value.cells, byteVals]))) ?_
                  intro g865 w866 a871 F872 z869 z870 b867 hx868; clear F858
                  have nb873 := own_new (g := g865) hf864 (by omega)
                  have b874 := (b862.ext hx868)
                  have b875 := (b863.ext hx868)
                  refine ⟨fun _ _ => ⟨((((Ext.refl w621).trans hx837).grownN hg861 (by omega)).trans hx868), b874, b875⟩, ?_⟩
                  have r876 := (own_ext r849 hx868)
                  exact st723 _ _ ⟨A846, c847, g865, ((((((((((((((((((((F872.nil.c F872 90 rfl).c F872 88 rfl).c F872 83 rfl).c F872 73 rfl).c F872 63 rfl).c F872 57 rfl).c F872 48 rfl).c F872 19 rfl).c F872 15 rfl).c F872 13 rfl).c F872 12 rfl).c F872 11 rfl).c F872 10 rfl).c F872 9 rfl).c F872 8 rfl).c F872 4 rfl).c F872 3 rfl).c F872 2 rfl).c F872 1 rfl).c F872 0 rfl), ((((Ext.refl w621).trans hx837).grownN hg861 (by omega)).trans hx868), b867, (by omega), (own_base r876 (by omega)), nb873⟩
                · skip
                  refine o_new (fun g => (.slice (some ⟨g, 0, none⟩) 1 1)) (byteVals ((pubF sd many used))) 37 F841 rfl rfl rfl rfl (rn_buildSlice (parts1 (F841.get rfl)) (build_wholeE (vs := [(.agg (byteVals (pubF sd many used)).toArray)]) El28 rfl rfl (fun v hv => by rw [List.mem_singleton.1 hv]; exact (byteVals_len (pubF_len _ _ _))) (by decide) (by decide) (by simp [Value.cells, byteVals]))) ?_
                  intro g877 w878 a883 F884 z881 z882 b879 hx880; clear F841
                  have b885 := (b842.ext hx880)
                  have b886 := (b843.ext hx880)
                  refine ⟨fun _ _ => ⟨(((Ext.refl w621).trans hx837).trans hx880), b885, b886⟩, ?_⟩
                  have b887 := (b836.ext hx880)
                  exact st787 _ _ ⟨g834, g877, (((((((((((((((((((((F884.nil.c F884 90 rfl).c F884 87 rfl).c F884 85 rfl).c F884 83 rfl).c F884 73 rfl).c F884 63 rfl).c F884 57 rfl).c F884 48 rfl).c F884 19 rfl).c F884 15 rfl).c F884 13 rfl).c F884 12 rfl).c F884 11 rfl).c F884 10 rfl).c F884 9 rfl).c F884 8 rfl).c F884 4 rfl).c F884 3 rfl).c F884 2 rfl).c F884 1 rfl).c F884 0 rfl), (((Ext.refl w621).trans hx837).trans hx880), b887, (by omega), b879, (by omega), (by omega)⟩
              · skip
                refine o_new (fun g => (.slice (some ⟨g, 0, none⟩) 1 1)) (byteVals ((pubF sd many used))) 37 F833 rfl rfl rfl rfl (rn_buildSlice (parts1 (F833.get rfl)) (build_wholeE (vs := [(.agg (byteVals (pubF sd many used)).toArray)]) El28 rfl rfl (fun v hv => by rw [List.mem_singleton.1 hv]; exact (byteVals_len (pubF_len _ _ _))) (by decide) (by decide) (by simp [Value.cells, byteVals]))) ?_
                intro g888 w889 a894 F895 z892 z893 b890 hx891; clear F833
                have b896 := (b828.ext hx891)
                have b897 := (b829.ext hx891)
                refine ⟨fun _ _ => ⟨((Ext.refl w621).trans hx891), b896, b897⟩, ?_⟩
                refine any_one (i := 0) (by decide +kernel) rfl ?_
                refine o_new (fun g => (.slice (some ⟨g, 0, none⟩) 0 0)) [] 37 F895 rfl rfl rfl rfl (rn_buildSlice (parts0 ) (by kernel_rfl)) ?_
                intro g898 w899 a904 F905 z902 z903 b900 hx901; clear F895
                have b906 := (b896.ext hx901)
                have b907 := (b897.ext hx901)
                refine ⟨fun _ _ => ⟨(((Ext.refl w621).trans hx891).trans hx901), b906, b907⟩, ?_⟩
                have b908 := (b890.ext hx901)
                exact st787 _ _ ⟨g898, g888, (((((((((((((((((((((F905.nil.c F905 90 rfl).c F905 87 rfl).c F905 85 rfl).c F905 83 rfl).c F905 73 rfl).c F905 63 rfl).c F905 57 rfl).c F905 48 rfl).c F905 19 rfl).c F905 15 rfl).c F905 13 rfl).c F905 12 rfl).c F905 11 rfl).c F905 10 rfl).c F905 9 rfl).c F905 8 rfl).c F905 4 rfl).c F905 3 rfl).c F905 2 rfl).c F905 1 rfl).c F905 0 rfl), (((Ext.refl w621).trans hx891).trans hx901), b900, (by omega), b908, (by omega), (by omega)⟩
            · skip
              refine wp_cond_false (c_false F619 rfl (decide_eq_false hc620)) ?_
              refine wp_seq_k (fun K909 hK909 => ?_)
              refine wp_region_lit ?_
              refine qv 0 (.bool (decide ((kd : Int) = (3 : Int)))) F619 rfl (rn_eql (F619.get rfl) rfl) fun _ F911 => ?_; clear F619
              refine qv 1 (.bool (decide ((kd : Int) = (3 : Int)))) F911 rfl (rn_assign (F911.get rfl)) fun _ F913 => ?_; clear F911
              refine wpList_nil ?_
              refine hK909 _ _ ?_
              clear hK909
              by_cases hc914 : (kd : Int) = (3 : Int)
              · skip
                refine wp_cond_true (c_true F913 rfl (decide_eq_true hc914)) ?_
                refine wp_region_lit ?_
                refine qv 0 (.pointer (some ⟨g2, 1, none⟩)) F913 rfl (rn_field Tryd.underlying24 rfl (by kernel_rfl) (F913.get rfl) rfl) fun _ F916 => ?_; clear F913
                refine qv 1 (.int .i64 many) F916 rfl (rn_load (isAgg_no Tryd.underlying3 rfl) (F916.get rfl) (b260.rule.1 1)) fun _ F918 => ?_; clear F916
                refine qv 2 (.int .i64 x) F918 rfl (rn_move (F918.get rfl)) fun _ F920 => ?_; clear F918
                refine qv 3 (.int .i64 (min (x : Int) (1000 : Int))) F920 rfl (rn_min2 Tryd.underlying3 (F920.get rfl) rfl) fun _ F922 => ?_; clear F920
                refine qv 4 (.int .i64 (max (0 : Int) (min (x : Int) (1000 : Int) : Int))) F922 rfl (rn_max2 Tryd.underlying3 rfl (F922.get rfl)) fun _ F924 => ?_; clear F922
                refine qv 5 (.int .i64 (many + (max (0 : Int) (min (x : Int) (1000 : Int) : Int)))) F924 rfl (rn_add (F924.get rfl) (F924.get rfl) (by omega) (by omega)) fun _ F926 => ?_; clear F924
                refine qv 6 (.pointer (some ⟨g113, 0, none⟩)) F926 rfl (rn_field Tryd.underlying30 rfl (by kernel_rfl) (F926.get rfl) rfl) fun _ F928 => ?_; clear F926
                refine wpl_op (i := 7) rfl (o_store1 (new := [(.int .i64 (many + (max (0 : Int) (min (x : Int) (1000 : Int) : Int)))), (.slice A76 n77 c78), (.slice A79 n80 c81), (.slice A82 n83 c84)]) F928 rfl rfl rfl rfl (F928.get rfl) (F928.get rfl) b122 inf3 (by simp) rfl rfl ?_)
                intro w929 b930 hg931; have z932 := hg931.size
                refine wpList_nil ?_
                refine hK265 _ _ ?_
                clear hK265
                have F933 := (((((((((((((((((((F928.nil.c F928 93 rfl).c F928 83 rfl).c F928 73 rfl).c F928 63 rfl).c F928 57 rfl).c F928 13 rfl).c F928 48 rfl).c F928 12 rfl).c F928 11 rfl).c F928 10 rfl).c F928 9 rfl).c F928 19 rfl).c F928 15 rfl).c F928 8 rfl).c F928 4 rfl).c F928 3 rfl).c F928 2 rfl).c F928 1 rfl).c F928 0 rfl)
                clear F928
                refine wp_seq_k (fun K934 hK934 => ?_)
                refine wp_region_lit ?_
                have b935 := ((((b62.ext hx91).ext hx116).grownN hg123 (by omega)).grownN hg931 (by omega))
                refine qv 0 (.agg (byteVals (pubF sd many used)).toArray) F933 rfl (rn_loadBlk (F933.get rfl) b935 Tryd.underlying37 rfl (inf37.trans (congrArg some (byteVals_len (pubF_len _ _ _)).symm))) fun _ F937 => ?_; clear F933
                refine qv 1 (.int .i64 many) F937 rfl (rn_move (F937.get rfl)) fun _ F939 => ?_; clear F937
                refine qv 2 (.slice B msg.length bc) F939 rfl (rn_move (F939.get rfl)) fun _ F941 => ?_; clear F939
                refine qv 3 (.agg #[(.int .i64 (many + (max (0 : Int) (min (x : Int) (1000 : Int) : Int)))), (.slice A76 n77 c78), (.slice A79 n80 c81), (.slice A82 n83 c84)]) F941 rfl (rn_loadBlk (F941.get rfl) b930 Tryd.underlying30 rfl inf30) fun _ F943 => ?_; clear F941
                have d944 := (hmk.pres (((((((((((Pres.refl w).ext hx5).ext hx15).ext hx29).ext hx43).ext hx56).grownN hg63 (fun h => by simp only [Clip] at h; omega)).ext hx91).ext hx116).grownN hg123 (fun h => by simp only [Clip] at h; omega)).grownN hg931 (fun h => by simp only [Clip] at h; omega)))
                have d945 := (hf104.pres ((((Pres.refl w90).ext hx116).grownN hg123 (fun h => by simp only [Clip] at h; omega)).grownN hg931 (fun h => by simp only [Clip] at h; omega)))
                have d946 := (hf105.pres ((((Pres.refl w90).ext hx116).grownN hg123 (fun h => by simp only [Clip] at h; omega)).grownN hg931 (fun h => by simp only [Clip] at h; omega)))
                have d947 := (hf106.pres ((((Pres.refl w90).ext hx116).grownN hg123 (fun h => by simp only [Clip] at h; omega)).grownN hg931 (fun h => by simp only [Clip] at h; omega)))
                refine wpl_op (i := 4) rfl (o_call F943 rfl rfl rfl rfl (rn_call (args4 (F943.get rfl) (F943.get rfl) (F943.get rfl) (F943.get rfl)) rfl (by kernel_rfl)) (verify_at (v := (.slice B msg.length bc)) (m := msg.length) (u1 := (.slice A76 n77 c78)) (u2 := (.slice A79 n80 c81)) (u3 := (.slice A82 n83 c84)) (n1 := n77) (n2 := n80) (n3 := n83) (pubF sd many used) many msg ⟨many + (max (0 : Int) (min (x : Int) (1000 : Int) : Int)), sg88.op, sg88.cl, sg88.path⟩ _ (pubF_len _ _ _) d944 d945 d946 d947 h3292 h3295 h3298 (hG.ext (((((((((((Ext.refl w).trans hx5).trans hx15).trans hx29).trans hx43).trans hx56).grownN hg63 (by omega)).trans hx91).trans hx116).grownN hg123 (by omega)).grownN hg931 (by omega)))) ?_)
                rintro _ w948 ⟨rfl, hx949⟩
                refine ⟨_, rfl, ?_⟩; intro a950 F951; clear F943; have z952 := hx949.size
                refine qv 5 (.bool (!(verifyF (pubF sd many used) many msg ⟨many + (max (0 : Int) (min (x : Int) (1000 : Int) : Int)), sg88.op, sg88.cl, sg88.path⟩))) F951 rfl (rn_not' (F951.get rfl) rfl) fun _ F954 => ?_; clear F951
                refine qv 6 (.bool (!(verifyF (pubF sd many used) many msg ⟨many + (max (0 : Int) (min (x : Int) (1000 : Int) : Int)), sg88.op, sg88.cl, sg88.path⟩))) F954 rfl (rn_assign (F954.get rfl)) fun _ F956 => ?_; clear F954
                refine wpList_nil ?_
                refine hK934 _ _ ?_
                clear hK934
                have F957 := (((((((((((((((((((F956.nil.c F956 93 rfl).c F956 83 rfl).c F956 73 rfl).c F956 63 rfl).c F956 57 rfl).c F956 13 rfl).c F956 48 rfl).c F956 12 rfl).c F956 11 rfl).c F956 10 rfl).c F956 9 rfl).c F956 19 rfl).c F956 15 rfl).c F956 8 rfl).c F956 4 rfl).c F956 3 rfl).c F956 2 rfl).c F956 1 rfl).c F956 0 rfl)
                clear F956
                refine wp_ret ?_
                refine ret1 F957 rfl rfl ?_
                exact ⟨congrArg (fun b => Ending.returned (.bool b)) ((not_f ((verify_not (by unfold vShape; (try simp only [List.length_take, List.length_append, List.length_cons, List.length_nil]); omega)) : verifyF (pubF sd many used) many msg ⟨many + (max (0 : Int) (min (x : Int) (1000 : Int) : Int)), sg88.op, sg88.cl, sg88.path⟩ = false)) : (!(verifyF (pubF sd many used) many msg ⟨many + (max (0 : Int) (min (x : Int) (1000 : Int) : Int)), sg88.op, sg88.cl, sg88.path⟩)) = true), ((((((((((((Ext.refl w).trans hx5).trans hx15).trans hx29).trans hx43).trans hx56).grownN hg63 (by omega)).trans hx91).trans hx116).grownN hg123 (by omega)).grownN hg931 (by omega)).trans hx949)⟩
              · skip
                refine wp_cond_false (c_false F913 rfl (decide_eq_false hc914)) ?_
                refine wp_seq_k (fun K958 hK958 => ?_)
                refine wp_region_lit ?_
                refine qv 0 (.bool (decide ((kd : Int) = (4 : Int)))) F913 rfl (rn_eql (F913.get rfl) rfl) fun _ F960 => ?_; clear F913
                refine qv 1 (.bool (decide ((kd : Int) = (4 : Int)))) F960 rfl (rn_assign (F960.get rfl)) fun _ F962 => ?_; clear F960
                refine wpList_nil ?_
                refine hK958 _ _ ?_
                clear hK958
                by_cases hc963 : (kd : Int) = (4 : Int)
                · skip
                  refine wp_cond_true (c_true F962 rfl (decide_eq_true hc963)) ?_
                  refine wp_region_lit ?_
                  refine qv 0 (.int .i64 x) F962 rfl (rn_move (F962.get rfl)) fun _ F965 => ?_; clear F962
                  refine qv 1 (.int .i64 (min (x : Int) (1000 : Int))) F965 rfl (rn_min2 Tryd.underlying3 (F965.get rfl) rfl) fun _ F967 => ?_; clear F965
                  refine qv 2 (.int .i64 (max (0 : Int) (min (x : Int) (1000 : Int) : Int))) F967 rfl (rn_max2 Tryd.underlying3 rfl (F967.get rfl)) fun _ F969 => ?_; clear F967
                  refine qv 3 (.int .i64 ((-1) - (max (0 : Int) (min (x : Int) (1000 : Int) : Int)))) F969 rfl (rn_sub rfl (F969.get rfl) (by omega) (by omega)) fun _ F971 => ?_; clear F969
                  refine qv 4 (.pointer (some ⟨g113, 0, none⟩)) F971 rfl (rn_field Tryd.underlying30 rfl (by kernel_rfl) (F971.get rfl) rfl) fun _ F973 => ?_; clear F971
                  refine wpl_op (i := 5) rfl (o_store1 (new := [(.int .i64 ((-1) - (max (0 : Int) (min (x : Int) (1000 : Int) : Int)))), (.slice A76 n77 c78), (.slice A79 n80 c81), (.slice A82 n83 c84)]) F973 rfl rfl rfl rfl (F973.get rfl) (F973.get rfl) b122 inf3 (by simp) rfl rfl ?_)
                  intro w974 b975 hg976; have z977 := hg976.size
                  refine wpList_nil ?_
                  refine hK265 _ _ ?_
                  clear hK265
                  have F978 := ((((((((((((((((((((F973.nil.c F973 102 rfl).c F973 93 rfl).c F973 83 rfl).c F973 73 rfl).c F973 63 rfl).c F973 57 rfl).c F973 13 rfl).c F973 48 rfl).c F973 12 rfl).c F973 11 rfl).c F973 10 rfl).c F973 9 rfl).c F973 19 rfl).c F973 15 rfl).c F973 8 rfl).c F973 4 rfl).c F973 3 rfl).c F973 2 rfl).c F973 1 rfl).c F973 0 rfl)
                  clear F973
                  refine wp_seq_k (fun K979 hK979 => ?_)
                  refine wp_region_lit ?_
                  have b980 := ((((b62.ext hx91).ext hx116).grownN hg123 (by omega)).grownN hg976 (by omega))
                  refine qv 0 (.agg (byteVals (pubF sd many used)).toArray) F978 rfl (rn_loadBlk (F978.get rfl) b980 Tryd.underlying37 rfl (inf37.trans (congrArg some (byteVals_len (pubF_len _ _ _)).symm))) fun _ F982 => ?_; clear F978
                  refine qv 1 (.int .i64 many) F982 rfl (rn_move (F982.get rfl)) fun _ F984 => ?_; clear F982
                  refine qv 2 (.slice B msg.length bc) F984 rfl (rn_move (F984.get rfl)) fun _ F986 => ?_; clear F984
                  refine qv 3 (.agg #[(.int .i64 ((-1) - (max (0 : Int) (min (x : Int) (1000 : Int) : Int)))), (.slice A76 n77 c78), (.slice A79 n80 c81), (.slice A82 n83 c84)]) F986 rfl (rn_loadBlk (F986.get rfl) b975 Tryd.underlying30 rfl inf30) fun _ F988 => ?_; clear F986
                  have d989 := (hmk.pres (((((((((((Pres.refl w).ext hx5).ext hx15).ext hx29).ext hx43).ext hx56).grownN hg63 (fun h => by simp only [Clip] at h; omega)).ext hx91).ext hx116).grownN hg123 (fun h => by simp only [Clip] at h; omega)).grownN hg976 (fun h => by simp only [Clip] at h; omega)))
                  have d990 := (hf104.pres ((((Pres.refl w90).ext hx116).grownN hg123 (fun h => by simp only [Clip] at h; omega)).grownN hg976 (fun h => by simp only [Clip] at h; omega)))
                  have d991 := (hf105.pres ((((Pres.refl w90).ext hx116).grownN hg123 (fun h => by simp only [Clip] at h; omega)).grownN hg976 (fun h => by simp only [Clip] at h; omega)))
                  have d992 := (hf106.pres ((((Pres.refl w90).ext hx116).grownN hg123 (fun h => by simp only [Clip] at h; omega)).grownN hg976 (fun h => by simp only [Clip] at h; omega)))
                  refine wpl_op (i := 4) rfl (o_call F988 rfl rfl rfl rfl (rn_call (args4 (F988.get rfl) (F988.get rfl) (F988.get rfl) (F988.get rfl)) rfl (by kernel_rfl)) (verify_at (v := (.slice B msg.length bc)) (m := msg.length) (u1 := (.slice A76 n77 c78)) (u2 := (.slice A79 n80 c81)) (u3 := (.slice A82 n83 c84)) (n1 := n77) (n2 := n80) (n3 := n83) (pubF sd many used) many msg ⟨(-1) - (max (0 : Int) (min (x : Int) (1000 : Int) : Int)), sg88.op, sg88.cl, sg88.path⟩ _ (pubF_len _ _ _) d989 d990 d991 d992 h3292 h3295 h3298 (hG.ext (((((((((((Ext.refl w).trans hx5).trans hx15).trans hx29).trans hx43).trans hx56).grownN hg63 (by omega)).trans hx91).trans hx116).grownN hg123 (by omega)).grownN hg976 (by omega)))) ?_)
                  rintro _ w993 ⟨rfl, hx994⟩
                  refine ⟨_, rfl, ?_⟩; intro a995 F996; clear F988; have z997 := hx994.size
                  refine qv 5 (.bool (!(verifyF (pubF sd many used) many msg ⟨(-1) - (max (0 : Int) (min (x : Int) (1000 : Int) : Int)), sg88.op, sg88.cl, sg88.path⟩))) F996 rfl (rn_not' (F996.get rfl) rfl) fun _ F999 => ?_; clear F996
                  refine qv 6 (.bool (!(verifyF (pubF sd many used) many msg ⟨(-1) - (max (0 : Int) (min (x : Int) (1000 : Int) : Int)), sg88.op, sg88.cl, sg88.path⟩))) F999 rfl (rn_assign (F999.get rfl)) fun _ F1001 => ?_; clear F999
                  refine wpList_nil ?_
                  refine hK979 _ _ ?_
                  clear hK979
                  have F1002 := ((((((((((((((((((((F1001.nil.c F1001 102 rfl).c F1001 93 rfl).c F1001 83 rfl).c F1001 73 rfl).c F1001 63 rfl).c F1001 57 rfl).c F1001 13 rfl).c F1001 48 rfl).c F1001 12 rfl).c F1001 11 rfl).c F1001 10 rfl).c F1001 9 rfl).c F1001 19 rfl).c F1001 15 rfl).c F1001 8 rfl).c F1001 4 rfl).c F1001 3 rfl).c F1001 2 rfl).c F1001 1 rfl).c F1001 0 rfl)
                  clear F1001
                  refine wp_ret ?_
                  refine ret1 F1002 rfl rfl ?_
                  exact ⟨congrArg (fun b => Ending.returned (.bool b)) ((not_f ((verify_not (by unfold vShape; (try simp only [List.length_take, List.length_append, List.length_cons, List.length_nil]); omega)) : verifyF (pubF sd many used) many msg ⟨(-1) - (max (0 : Int) (min (x : Int) (1000 : Int) : Int)), sg88.op, sg88.cl, sg88.path⟩ = false)) : (!(verifyF (pubF sd many used) many msg ⟨(-1) - (max (0 : Int) (min (x : Int) (1000 : Int) : Int)), sg88.op, sg88.cl, sg88.path⟩)) = true), ((((((((((((Ext.refl w).trans hx5).trans hx15).trans hx29).trans hx43).trans hx56).grownN hg63 (by omega)).trans hx91).trans hx116).grownN hg123 (by omega)).grownN hg976 (by omega)).trans hx994)⟩
                · skip
                  refine wp_cond_false (c_false F962 rfl (decide_eq_false hc963)) ?_
                  refine wp_seq_k (fun K1003 hK1003 => ?_)
                  refine wp_region_lit ?_
                  refine qv 0 (.bool (decide ((kd : Int) = (5 : Int)))) F962 rfl (rn_eql (F962.get rfl) rfl) fun _ F1005 => ?_; clear F962
                  refine qv 1 (.bool (decide ((kd : Int) = (5 : Int)))) F1005 rfl (rn_assign (F1005.get rfl)) fun _ F1007 => ?_; clear F1005
                  refine wpList_nil ?_
                  refine hK1003 _ _ ?_
                  clear hK1003
                  have F1008 := (((((((((((((((((((((F1007.nil.c F1007 109 rfl).c F1007 102 rfl).c F1007 93 rfl).c F1007 83 rfl).c F1007 73 rfl).c F1007 63 rfl).c F1007 57 rfl).c F1007 13 rfl).c F1007 48 rfl).c F1007 12 rfl).c F1007 11 rfl).c F1007 10 rfl).c F1007 9 rfl).c F1007 19 rfl).c F1007 15 rfl).c F1007 8 rfl).c F1007 4 rfl).c F1007 3 rfl).c F1007 2 rfl).c F1007 1 rfl).c F1007 0 rfl)
                  clear F1007
                  by_cases hc1009 : (kd : Int) = (5 : Int)
                  · skip
                    refine wp_cond_true (c_true F1008 rfl (decide_eq_true hc1009)) ?_
                    refine wp_region_lit ?_
                    refine qv 0 (.int .i64 x) F1008 rfl (rn_move (F1008.get rfl)) fun _ F1011 => ?_; clear F1008
                    refine qv 1 (.int .i64 (min (x : Int) (1000 : Int))) F1011 rfl (rn_min2 Tryd.underlying3 (F1011.get rfl) rfl) fun _ F1013 => ?_; clear F1011
                    refine qv 2 (.int .i64 (max (0 : Int) (min (x : Int) (1000 : Int) : Int))) F1013 rfl (rn_max2 Tryd.underlying3 rfl (F1013.get rfl)) fun _ F1015 => ?_; clear F1013
                    refine qv 3 (.int .i64 (-(max (0 : Int) (min (x : Int) (1000 : Int) : Int) : Int))) F1015 rfl (rn_neg (F1015.get rfl) (by omega) rfl) fun _ F1017 => ?_; clear F1015
                    refine qv 4 (.int .i64 (-(max (0 : Int) (min (x : Int) (1000 : Int) : Int) : Int))) F1017 rfl (rn_assign (F1017.get rfl)) fun _ F1019 => ?_; clear F1017
                    refine wpList_nil ?_
                    refine hK265 _ _ ?_
                    clear hK265
                    have F1020 := (((((((((((((((((((((F1019.nil.c F1019 109 rfl).c F1019 102 rfl).c F1019 93 rfl).c F1019 83 rfl).c F1019 73 rfl).c F1019 63 rfl).c F1019 57 rfl).c F1019 13 rfl).c F1019 48 rfl).c F1019 12 rfl).c F1019 11 rfl).c F1019 10 rfl).c F1019 9 rfl).c F1019 19 rfl).c F1019 15 rfl).c F1019 8 rfl).c F1019 4 rfl).c F1019 3 rfl).c F1019 2 rfl).c F1019 1 rfl).c F1019 0 rfl)
                    clear F1019
                    refine wp_seq_k (fun K1021 hK1021 => ?_)
                    refine wp_region_lit ?_
                    have b1022 := (((b62.ext hx91).ext hx116).grownN hg123 (by omega))
                    refine qv 0 (.agg (byteVals (pubF sd many used)).toArray) F1020 rfl (rn_loadBlk (F1020.get rfl) b1022 Tryd.underlying37 rfl (inf37.trans (congrArg some (byteVals_len (pubF_len _ _ _)).symm))) fun _ F1024 => ?_; clear F1020
                    refine qv 1 (.int .i64 (-(max (0 : Int) (min (x : Int) (1000 : Int) : Int) : Int))) F1024 rfl (rn_move (F1024.get rfl)) fun _ F1026 => ?_; clear F1024
                    refine qv 2 (.slice B msg.length bc) F1026 rfl (rn_move (F1026.get rfl)) fun _ F1028 => ?_; clear F1026
                    refine qv 3 (.agg #[(.int .i64 sg88.index), (.slice A76 n77 c78), (.slice A79 n80 c81), (.slice A82 n83 c84)]) F1028 rfl (rn_loadBlk (F1028.get rfl) b122 Tryd.underlying30 rfl inf30) fun _ F1030 => ?_; clear F1028
                    have d1031 := (hmk.pres ((((((((((Pres.refl w).ext hx5).ext hx15).ext hx29).ext hx43).ext hx56).grownN hg63 (fun h => by simp only [Clip] at h; omega)).ext hx91).ext hx116).grownN hg123 (fun h => by simp only [Clip] at h; omega)))
                    have d1032 := (hf104.pres (((Pres.refl w90).ext hx116).grownN hg123 (fun h => by simp only [Clip] at h; omega)))
                    have d1033 := (hf105.pres (((Pres.refl w90).ext hx116).grownN hg123 (fun h => by simp only [Clip] at h; omega)))
                    have d1034 := (hf106.pres (((Pres.refl w90).ext hx116).grownN hg123 (fun h => by simp only [Clip] at h; omega)))
                    refine wpl_op (i := 4) rfl (o_call F1030 rfl rfl rfl rfl (rn_call (args4 (F1030.get rfl) (F1030.get rfl) (F1030.get rfl) (F1030.get rfl)) rfl (by kernel_rfl)) (verify_at (v := (.slice B msg.length bc)) (m := msg.length) (u1 := (.slice A76 n77 c78)) (u2 := (.slice A79 n80 c81)) (u3 := (.slice A82 n83 c84)) (n1 := n77) (n2 := n80) (n3 := n83) (pubF sd many used) (-(max (0 : Int) (min (x : Int) (1000 : Int) : Int) : Int)) msg sg88 _ (pubF_len _ _ _) d1031 d1032 d1033 d1034 h3292 h3295 h3298 (hG.ext ((((((((((Ext.refl w).trans hx5).trans hx15).trans hx29).trans hx43).trans hx56).grownN hg63 (by omega)).trans hx91).trans hx116).grownN hg123 (by omega)))) ?_)
                    rintro _ w1035 ⟨rfl, hx1036⟩
                    refine ⟨_, rfl, ?_⟩; intro a1037 F1038; clear F1030; have z1039 := hx1036.size
                    refine qv 5 (.bool (!(verifyF (pubF sd many used) (-(max (0 : Int) (min (x : Int) (1000 : Int) : Int) : Int)) msg sg88))) F1038 rfl (rn_not' (F1038.get rfl) rfl) fun _ F1041 => ?_; clear F1038
                    refine qv 6 (.bool (!(verifyF (pubF sd many used) (-(max (0 : Int) (min (x : Int) (1000 : Int) : Int) : Int)) msg sg88))) F1041 rfl (rn_assign (F1041.get rfl)) fun _ F1043 => ?_; clear F1041
                    refine wpList_nil ?_
                    refine hK1021 _ _ ?_
                    clear hK1021
                    have F1044 := (((((((((((((((((((((F1043.nil.c F1043 109 rfl).c F1043 102 rfl).c F1043 93 rfl).c F1043 83 rfl).c F1043 73 rfl).c F1043 63 rfl).c F1043 57 rfl).c F1043 13 rfl).c F1043 48 rfl).c F1043 12 rfl).c F1043 11 rfl).c F1043 10 rfl).c F1043 9 rfl).c F1043 19 rfl).c F1043 15 rfl).c F1043 8 rfl).c F1043 4 rfl).c F1043 3 rfl).c F1043 2 rfl).c F1043 1 rfl).c F1043 0 rfl)
                    clear F1043
                    refine wp_ret ?_
                    refine ret1 F1044 rfl rfl ?_
                    exact ⟨congrArg (fun b => Ending.returned (.bool b)) ((not_f ((verify_not (by unfold vShape; (try simp only [List.length_take, List.length_append, List.length_cons, List.length_nil]); omega)) : verifyF (pubF sd many used) (-(max (0 : Int) (min (x : Int) (1000 : Int) : Int) : Int)) msg sg88 = false)) : (!(verifyF (pubF sd many used) (-(max (0 : Int) (min (x : Int) (1000 : Int) : Int) : Int)) msg sg88)) = true), (((((((((((Ext.refl w).trans hx5).trans hx15).trans hx29).trans hx43).trans hx56).grownN hg63 (by omega)).trans hx91).trans hx116).grownN hg123 (by omega)).trans hx1036)⟩
                  · skip
                    refine wp_cond_false (c_false F1008 rfl (decide_eq_false hc1009)) ?_
                    refine wp_seq_k (fun K1045 hK1045 => ?_)
                    refine wp_region_lit ?_
                    refine qv 0 (.bool (decide ((kd : Int) = (6 : Int)))) F1008 rfl (rn_eql (F1008.get rfl) rfl) fun _ F1047 => ?_; clear F1008
                    refine qv 1 (.bool (decide ((kd : Int) = (6 : Int)))) F1047 rfl (rn_assign (F1047.get rfl)) fun _ F1049 => ?_; clear F1047
                    refine wpList_nil ?_
                    refine hK1045 _ _ ?_
                    clear hK1045
                    by_cases hc1050 : (kd : Int) = (6 : Int)
                    · skip
                      refine wp_cond_true (c_true F1049 rfl (decide_eq_true hc1050)) ?_
                      refine wp_region_lit ?_
                      refine qv 0 (.int .i64 x) F1049 rfl (rn_move (F1049.get rfl)) fun _ F1052 => ?_; clear F1049
                      refine qv 1 (.int .i64 (min (x : Int) (1000 : Int))) F1052 rfl (rn_min2 Tryd.underlying3 (F1052.get rfl) rfl) fun _ F1054 => ?_; clear F1052
                      refine qv 2 (.int .i64 (max (0 : Int) (min (x : Int) (1000 : Int) : Int))) F1054 rfl (rn_max2 Tryd.underlying3 rfl (F1054.get rfl)) fun _ F1056 => ?_; clear F1054
                      refine qv 3 (.int .i64 (4097 + (max (0 : Int) (min (x : Int) (1000 : Int) : Int)))) F1056 rfl (rn_add rfl (F1056.get rfl) (by omega) (by omega)) fun _ F1058 => ?_; clear F1056
                      refine qv 4 (.int .i64 (4097 + (max (0 : Int) (min (x : Int) (1000 : Int) : Int)))) F1058 rfl (rn_assign (F1058.get rfl)) fun _ F1060 => ?_; clear F1058
                      refine wpList_nil ?_
                      refine hK265 _ _ ?_
                      clear hK265
                      have F1061 := ((((((((((((((((((((((F1060.nil.c F1060 115 rfl).c F1060 109 rfl).c F1060 102 rfl).c F1060 93 rfl).c F1060 83 rfl).c F1060 73 rfl).c F1060 63 rfl).c F1060 57 rfl).c F1060 13 rfl).c F1060 48 rfl).c F1060 12 rfl).c F1060 11 rfl).c F1060 10 rfl).c F1060 9 rfl).c F1060 19 rfl).c F1060 15 rfl).c F1060 8 rfl).c F1060 4 rfl).c F1060 3 rfl).c F1060 2 rfl).c F1060 1 rfl).c F1060 0 rfl)
                      clear F1060
                      refine wp_seq_k (fun K1062 hK1062 => ?_)
                      refine wp_region_lit ?_
                      have b1063 := (((b62.ext hx91).ext hx116).grownN hg123 (by omega))
                      refine qv 0 (.agg (byteVals (pubF sd many used)).toArray) F1061 rfl (rn_loadBlk (F1061.get rfl) b1063 Tryd.underlying37 rfl (inf37.trans (congrArg some (byteVals_len (pubF_len _ _ _)).symm))) fun _ F1065 => ?_; clear F1061
                      refine qv 1 (.int .i64 (4097 + (max (0 : Int) (min (x : Int) (1000 : Int) : Int)))) F1065 rfl (rn_move (F1065.get rfl)) fun _ F1067 => ?_; clear F1065
                      refine qv 2 (.slice B msg.length bc) F1067 rfl (rn_move (F1067.get rfl)) fun _ F1069 => ?_; clear F1067
                      refine qv 3 (.agg #[(.int .i64 sg88.index), (.slice A76 n77 c78), (.slice A79 n80 c81), (.slice A82 n83 c84)]) F1069 rfl (rn_loadBlk (F1069.get rfl) b122 Tryd.underlying30 rfl inf30) fun _ F1071 => ?_; clear F1069
                      have d1072 := (hmk.pres ((((((((((Pres.refl w).ext hx5).ext hx15).ext hx29).ext hx43).ext hx56).grownN hg63 (fun h => by simp only [Clip] at h; omega)).ext hx91).ext hx116).grownN hg123 (fun h => by simp only [Clip] at h; omega)))
                      have d1073 := (hf104.pres (((Pres.refl w90).ext hx116).grownN hg123 (fun h => by simp only [Clip] at h; omega)))
                      have d1074 := (hf105.pres (((Pres.refl w90).ext hx116).grownN hg123 (fun h => by simp only [Clip] at h; omega)))
                      have d1075 := (hf106.pres (((Pres.refl w90).ext hx116).grownN hg123 (fun h => by simp only [Clip] at h; omega)))
                      refine wpl_op (i := 4) rfl (o_call F1071 rfl rfl rfl rfl (rn_call (args4 (F1071.get rfl) (F1071.get rfl) (F1071.get rfl) (F1071.get rfl)) rfl (by kernel_rfl)) (verify_at (v := (.slice B msg.length bc)) (m := msg.length) (u1 := (.slice A76 n77 c78)) (u2 := (.slice A79 n80 c81)) (u3 := (.slice A82 n83 c84)) (n1 := n77) (n2 := n80) (n3 := n83) (pubF sd many used) (4097 + (max (0 : Int) (min (x : Int) (1000 : Int) : Int))) msg sg88 _ (pubF_len _ _ _) d1072 d1073 d1074 d1075 h3292 h3295 h3298 (hG.ext ((((((((((Ext.refl w).trans hx5).trans hx15).trans hx29).trans hx43).trans hx56).grownN hg63 (by omega)).trans hx91).trans hx116).grownN hg123 (by omega)))) ?_)
                      rintro _ w1076 ⟨rfl, hx1077⟩
                      refine ⟨_, rfl, ?_⟩; intro a1078 F1079; clear F1071; have z1080 := hx1077.size
                      refine qv 5 (.bool (!(verifyF (pubF sd many used) (4097 + (max (0 : Int) (min (x : Int) (1000 : Int) : Int))) msg sg88))) F1079 rfl (rn_not' (F1079.get rfl) rfl) fun _ F1082 => ?_; clear F1079
                      refine qv 6 (.bool (!(verifyF (pubF sd many used) (4097 + (max (0 : Int) (min (x : Int) (1000 : Int) : Int))) msg sg88))) F1082 rfl (rn_assign (F1082.get rfl)) fun _ F1084 => ?_; clear F1082
                      refine wpList_nil ?_
                      refine hK1062 _ _ ?_
                      clear hK1062
                      have F1085 := ((((((((((((((((((((((F1084.nil.c F1084 115 rfl).c F1084 109 rfl).c F1084 102 rfl).c F1084 93 rfl).c F1084 83 rfl).c F1084 73 rfl).c F1084 63 rfl).c F1084 57 rfl).c F1084 13 rfl).c F1084 48 rfl).c F1084 12 rfl).c F1084 11 rfl).c F1084 10 rfl).c F1084 9 rfl).c F1084 19 rfl).c F1084 15 rfl).c F1084 8 rfl).c F1084 4 rfl).c F1084 3 rfl).c F1084 2 rfl).c F1084 1 rfl).c F1084 0 rfl)
                      clear F1084
                      refine wp_ret ?_
                      refine ret1 F1085 rfl rfl ?_
                      exact ⟨congrArg (fun b => Ending.returned (.bool b)) ((not_f ((verify_not (by unfold vShape; (try simp only [List.length_take, List.length_append, List.length_cons, List.length_nil]); omega)) : verifyF (pubF sd many used) (4097 + (max (0 : Int) (min (x : Int) (1000 : Int) : Int))) msg sg88 = false)) : (!(verifyF (pubF sd many used) (4097 + (max (0 : Int) (min (x : Int) (1000 : Int) : Int))) msg sg88)) = true), (((((((((((Ext.refl w).trans hx5).trans hx15).trans hx29).trans hx43).trans hx56).grownN hg63 (by omega)).trans hx91).trans hx116).grownN hg123 (by omega)).trans hx1077)⟩
                    · skip
                      refine wp_cond_false (c_false F1049 rfl (decide_eq_false hc1050)) ?_
                      refine wp_seq_k (fun K1086 hK1086 => ?_)
                      refine wp_region_lit ?_
                      have b1087 := (((b62.ext hx91).ext hx116).grownN hg123 (by omega))
                      refine qv 0 (.agg (byteVals (pubF sd many used)).toArray) F1049 rfl (rn_loadBlk (F1049.get rfl) b1087 Tryd.underlying37 rfl (inf37.trans (congrArg some (byteVals_len (pubF_len _ _ _)).symm))) fun _ F1089 => ?_; clear F1049
                      refine qv 1 (.int .i64 many) F1089 rfl (rn_move (F1089.get rfl)) fun _ F1091 => ?_; clear F1089
                      refine qv 2 (.slice B msg.length bc) F1091 rfl (rn_move (F1091.get rfl)) fun _ F1093 => ?_; clear F1091
                      refine qv 3 (.agg #[(.int .i64 sg88.index), (.slice A76 n77 c78), (.slice A79 n80 c81), (.slice A82 n83 c84)]) F1093 rfl (rn_loadBlk (F1093.get rfl) b122 Tryd.underlying30 rfl inf30) fun _ F1095 => ?_; clear F1093
                      have d1096 := (hmk.pres ((((((((((Pres.refl w).ext hx5).ext hx15).ext hx29).ext hx43).ext hx56).grownN hg63 (fun h => by simp only [Clip] at h; omega)).ext hx91).ext hx116).grownN hg123 (fun h => by simp only [Clip] at h; omega)))
                      have d1097 := (hf104.pres (((Pres.refl w90).ext hx116).grownN hg123 (fun h => by simp only [Clip] at h; omega)))
                      have d1098 := (hf105.pres (((Pres.refl w90).ext hx116).grownN hg123 (fun h => by simp only [Clip] at h; omega)))
                      have d1099 := (hf106.pres (((Pres.refl w90).ext hx116).grownN hg123 (fun h => by simp only [Clip] at h; omega)))
                      refine wpl_op (i := 4) rfl (o_call F1095 rfl rfl rfl rfl (rn_call (args4 (F1095.get rfl) (F1095.get rfl) (F1095.get rfl) (F1095.get rfl)) rfl (by kernel_rfl)) (verify_at (v := (.slice B msg.length bc)) (m := msg.length) (u1 := (.slice A76 n77 c78)) (u2 := (.slice A79 n80 c81)) (u3 := (.slice A82 n83 c84)) (n1 := n77) (n2 := n80) (n3 := n83) (pubF sd many used) many msg sg88 _ (pubF_len _ _ _) d1096 d1097 d1098 d1099 h3292 h3295 h3298 (hG.ext ((((((((((Ext.refl w).trans hx5).trans hx15).trans hx29).trans hx43).trans hx56).grownN hg63 (by omega)).trans hx91).trans hx116).grownN hg123 (by omega)))) ?_)
                      rintro _ w1100 ⟨rfl, hx1101⟩
                      refine ⟨_, rfl, ?_⟩; intro a1102 F1103; clear F1095; have z1104 := hx1101.size
                      refine qv 5 (.bool (verifyF (pubF sd many used) many msg sg88)) F1103 rfl (rn_assign (F1103.get rfl)) fun _ F1106 => ?_; clear F1103
                      refine wpList_nil ?_
                      refine hK1086 _ _ ?_
                      clear hK1086
                      have F1107 := ((((((((((((((((((((((F1106.nil.c F1106 115 rfl).c F1106 109 rfl).c F1106 102 rfl).c F1106 93 rfl).c F1106 83 rfl).c F1106 73 rfl).c F1106 63 rfl).c F1106 57 rfl).c F1106 13 rfl).c F1106 48 rfl).c F1106 12 rfl).c F1106 11 rfl).c F1106 10 rfl).c F1106 9 rfl).c F1106 19 rfl).c F1106 15 rfl).c F1106 8 rfl).c F1106 4 rfl).c F1106 3 rfl).c F1106 2 rfl).c F1106 1 rfl).c F1106 0 rfl)
                      clear F1106
                      refine wp_ret ?_
                      refine ret_block ?_
                      refine ret_then ?_
                      refine ret1 F1107 rfl rfl ?_
                      exact ⟨congrArg (fun b => Ending.returned (.bool b)) (((by rw [hsg89]; exact verifies1 hz1 (by omega)) : verifyF (pubF sd many used) many msg sg88 = true) : verifyF (pubF sd many used) many msg sg88 = true), (((((((((((Ext.refl w).trans hx5).trans hx15).trans hx29).trans hx43).trans hx56).grownN hg63 (by omega)).trans hx91).trans hx116).grownN hg123 (by omega)).trans hx1101)⟩
  · skip
    refine wp_cond_true (c_true F35 rfl (not_f (decide_eq_false hc36))) ?_
    refine wp_seq_k (fun K1108 hK1108 => ?_)
    refine wp_region_lit ?_
    refine qv 0 (.bool true) F35 rfl (rn_assign rfl) fun _ F1110 => ?_; clear F35
    refine wpList_nil ?_
    refine hK1108 _ _ ?_
    clear hK1108
    refine wp_ret ?_
    refine ret_then ?_
    refine ret1 F1110 rfl rfl ?_
    exact ⟨congrArg (fun b => Ending.returned (.bool b)) (rfl : true = true), ((((Ext.refl w).trans hx5).trans hx15).trans hx29)⟩

end Go.Proofs.YtmjgjopbeokajaaDoor
