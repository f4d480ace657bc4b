/- Several texts in one: SealN5, SealN6, Wk15. -/
import Derived.Test.YtmjgjopbeokajaaDoorProg
import Derived.Test.YtmjgjopbeokajaaDoorBunG
import Derived.KernelRfl
import Derived.Test.YtmjgjopbeokajaaDoorBunA
import Derived.Test.YtmjgjopbeokajaaDoorBunB
namespace Go.Proofs.YtmjgjopbeokajaaDoor
open Go.RowKit

variable {S S' : Nat → Prop}

set_option maxRecDepth 100000 in
set_option maxHeartbeats 1000000 in
theorem used_any (A : Option Addr) (c : Nat) (sd : List UInt8) (many used : Int) (idx : Int) (B : Option Addr) (bc : Nat) (msg : List UInt8) (x : Int) (w : World) (hf : Fl S w 1 (.slice A sd.length c) sd.length (byteVals sd)) (hm : Fl S w 1 (.slice B msg.length bc) msg.length (byteVals msg)) (hG : Glob w) :
    Calls Tryd.prog 7 #[.agg #[.slice A sd.length c, .int .i64 many, .int .i64 used], .int .i64 idx, .slice B msg.length bc, .int .i64 x] w (fun e w' => e = .returned (.bool true) ∧ Ext w w') := by
  have hc : Fl (Clip S w) w 1 (.slice A sd.length c) sd.length (byteVals sd) := hf.clip
  have hcc := (Fl.cel hc).2.1
  have hmk : Fl (Clip S w) w 1 (.slice B msg.length bc) msg.length (byteVals msg) := hm.clip
  have hmkc := (Fl.cel hmk).2.1
  refine calls_enter (l := [(.agg #[(.slice A sd.length c), (.int .i64 many), (.int .i64 used)]), (.int .i64 idx), (.slice B msg.length bc), (.int .i64 x)]) Tryd.func7 rfl rfl rfl (fun aA hF => ?_)
  refine wp_seq_k (fun K1 hK1 => ?_)
  refine wp_region_lit ?_
  refine wpl_op (i := 0) rfl (o_new (fun g => (.pointer (some ⟨g, 0, none⟩))) [(.slice A sd.length c), (.int .i64 many), (.int .i64 used)] 24 hF rfl rfl rfl rfl (rn_box (hF.get rfl) (by kernel_rfl)) ?_)
  intro g2 w3 a8 F9 z6 z7 b4 hx5; clear hF
  refine qv 1 (.bool false) F9 rfl (rn_assign rfl) fun _ F11 => ?_; clear F9
  refine wpList_nil ?_
  refine hK1 _ _ ?_
  clear hK1
  refine wp_seq_k (fun K12 hK12 => ?_)
  refine wp_seq_k (fun K13 hK13 => ?_)
  refine wp_region_lit ?_
  refine wpl_op (i := 0) rfl (o_call F11 rfl rfl rfl rfl (rn_call (args0 ) rfl (by kernel_rfl)) (sane4 _ (hG.ext ((Ext.refl w).trans hx5))) ?_)
  rintro _ w14 ⟨rfl, hx15⟩
  refine ⟨_, rfl, ?_⟩; intro a16 F17; clear F11; have z18 := hx15.size
  refine qv 1 (.bool false) F17 rfl (rn_not' (F17.get rfl) rfl) fun _ F20 => ?_; clear F17
  refine wpList_nil ?_
  refine hK13 _ _ ?_
  clear hK13
  refine wp_cond_false (c_false F20 rfl rfl) ?_
  refine wp_skip ?_
  refine hK12 _ _ ?_
  clear hK12
  refine wp_seq_k (fun K21 hK21 => ?_)
  refine wp_seq_k (fun K22 hK22 => ?_)
  refine wp_region_lit ?_
  have b23 := (b4.ext hx15)
  refine qv 0 (.agg #[(.slice A sd.length c), (.int .i64 many), (.int .i64 used)]) F20 rfl (rn_loadBlk (F20.get rfl) b23 Tryd.underlying24 rfl inf24) fun _ F25 => ?_; clear F20
  refine qv 1 (.slice B msg.length bc) F25 rfl (rn_move (F25.get rfl)) fun _ F27 => ?_; clear F25
  refine wpl_op (i := 2) rfl (o_call F27 rfl rfl rfl rfl (rn_call (args2 (F27.get rfl) (F27.get rfl)) rfl (by kernel_rfl)) (few_any A B c msg.length bc sd many used _) ?_)
  rintro _ w28 ⟨rfl, hx29⟩
  refine ⟨_, rfl, ?_⟩; intro a30 F31; clear F27; have z32 := hx29.size
  refine qv 3 (.bool (!(decide (((many ≤ 2 ∧ ((sd.length : Nat) : Int) ≤ 100) ∧ ((msg.length : Nat) : Int) ≤ 300))))) F31 rfl (rn_not' (F31.get rfl) rfl) fun _ F34 => ?_; clear F31
  refine wpList_nil ?_
  refine hK22 _ _ ?_
  clear hK22
  have F35 := ((((((((F34.nil.c F34 23 rfl).c F34 19 rfl).c F34 8 rfl).c F34 4 rfl).c F34 3 rfl).c F34 2 rfl).c F34 1 rfl).c F34 0 rfl)
  clear F34
  by_cases hc36 : ((many ≤ 2 ∧ ((sd.length : Nat) : Int) ≤ 100) ∧ ((msg.length : Nat) : Int) ≤ 300)
  · skip
    refine wp_cond_false (c_false F35 rfl (not_t (decide_eq_true hc36))) ?_
    refine wp_skip ?_
    refine hK21 _ _ ?_
    clear hK21
    refine wp_seq_k (fun K37 hK37 => ?_)
    refine wp_region_lit ?_
    have b38 := (b23.ext hx29)
    refine qv 0 (.agg #[(.slice A sd.length c), (.int .i64 many), (.int .i64 used)]) F35 rfl (rn_loadBlk (F35.get rfl) b38 Tryd.underlying24 rfl inf24) fun _ F40 => ?_; clear F35
    have d41 := (((hc.ext hx5).ext hx15).ext hx29)
    refine wpl_op (i := 1) rfl (o_call F40 rfl rfl rfl rfl (rn_call (args1 (F40.get rfl)) rfl (by kernel_rfl)) (pub_at (v := (.slice A sd.length c)) (m := sd.length) sd many used _ d41 (hG.ext ((((Ext.refl w).trans hx5).trans hx15).trans hx29))) ?_)
    rintro _ w42 ⟨rfl, hx43⟩
    refine ⟨_, rfl, ?_⟩; intro a44 F45; clear F40; have z46 := hx43.size
    refine qv 2 (.tuple #[(.agg (byteVals (pubF sd many used)).toArray), (.int .i64 (pubE sd many used))]) F45 rfl (rn_move (F45.get rfl)) fun _ F48 => ?_; clear F45
    refine qv 3 (.agg (byteVals (pubF sd many used)).toArray) F48 rfl (rn_extract (F48.get rfl) rfl) fun _ F50 => ?_; clear F48
    refine qv 4 (.int .i64 (pubE sd many used)) F50 rfl (rn_extract (F50.get rfl) rfl) fun _ F52 => ?_; clear F50
    refine wpl_op (i := 5) rfl (o_new (fun g => (.pointer (some ⟨g, 0, none⟩))) (byteVals (List.replicate 32 0)) 37 F52 rfl rfl rfl rfl (by kernel_rfl) ?_)
    intro g53 w54 a59 F60 z57 z58 b55 hx56; clear F52
    refine wpl_op (i := 6) rfl (o_store (cells := (byteVals (pubF sd many used))) F60 rfl rfl rfl rfl (F60.get rfl) (F60.get rfl) b55 (inf37.trans (congrArg some (byteVals_len (pubF_len _ _ _)).symm)) ((byteVals_len (show List.length (List.replicate 32 0) = _ from List.length_replicate)).trans (byteVals_len (pubF_len _ _ _)).symm) (byteVals_one _) ?_)
    intro w61 b62 hg63; have z64 := hg63.size
    refine qv 7 (.int .i64 (pubE sd many used)) F60 rfl (rn_assign (F60.get rfl)) fun _ F66 => ?_; clear F60
    refine wpList_nil ?_
    refine hK37 _ _ ?_
    clear hK37
    have F67 := ((((((((((F66.nil.c F66 10 rfl).c F66 9 rfl).c F66 23 rfl).c F66 19 rfl).c F66 8 rfl).c F66 4 rfl).c F66 3 rfl).c F66 2 rfl).c F66 1 rfl).c F66 0 rfl)
    clear F66
    refine wp_seq_k (fun K68 hK68 => ?_)
    refine wp_region_lit ?_
    have b69 := (((b38.ext hx43).ext hx56).grownN hg63 (by omega))
    refine qv 0 (.agg #[(.slice A sd.length c), (.int .i64 many), (.int .i64 used)]) F67 rfl (rn_loadBlk (F67.get rfl) b69 Tryd.underlying24 rfl inf24) fun _ F71 => ?_; clear F67
    refine qv 1 (.int .i64 idx) F71 rfl (rn_move (F71.get rfl)) fun _ F73 => ?_; clear F71
    refine qv 2 (.slice B msg.length bc) F73 rfl (rn_move (F73.get rfl)) fun _ F75 => ?_; clear F73
    have d76 := (hc.pres (((((((Pres.refl w).ext hx5).ext hx15).ext hx29).ext hx43).ext hx56).grownN hg63 (fun h => by simp only [Clip] at h; omega)))
    have d77 := (hmk.pres (((((((Pres.refl w).ext hx5).ext hx15).ext hx29).ext hx43).ext hx56).grownN hg63 (fun h => by simp only [Clip] at h; omega)))
    refine wpl_op (i := 3) rfl (o_call F75 rfl rfl rfl rfl (rn_call (args3 (F75.get rfl) (F75.get rfl) (F75.get rfl)) rfl (by kernel_rfl)) (sign_at (v := (.slice A sd.length c)) (m := sd.length) (u := (.slice B msg.length bc)) (n := msg.length) sd many used idx msg _ d76 d77 (hG.ext (((((((Ext.refl w).trans hx5).trans hx15).trans hx29).trans hx43).trans hx56).grownN hg63 (by omega)))) ?_)
    obtain ⟨sg90, hsg91⟩ : ∃ z, z = signF sd many used idx msg := ⟨_, rfl⟩
    rw [← hsg91]
    rintro _ w92 ⟨A78, n79, c80, A81, n82, c83, A84, n85, c86, rfl, hf87, hf88, hf89, hx93⟩
    have h3294 : All32 sg90.op := by rw [hsg91]; exact signF_o _ _ _ _ _
    have z95 := (Fl.cel hf87).2.1; have z96 := Fl.dlen hf87 h3294
    have h3297 : All32 sg90.cl := by rw [hsg91]; exact signF_c _ _ _ _ _
    have z98 := (Fl.cel hf88).2.1; have z99 := Fl.dlen hf88 h3297
    have h32100 : All32 sg90.path := by rw [hsg91]; exact signF_p _ _ _ _ _
    have z101 := (Fl.cel hf89).2.1; have z102 := Fl.dlen hf89 h32100
    refine ⟨_, rfl, ?_⟩; intro a103 F104; clear F75; have z105 := hx93.size
    have hf106 : Fl (Clip (fun b => w61.heap.size ≤ b) w92) w92 32 (.slice A78 n79 c80) n79 (digVals sg90.op) := hf87.clip
    have hf107 : Fl (Clip (fun b => w61.heap.size ≤ b) w92) w92 32 (.slice A81 n82 c83) n82 (digVals sg90.cl) := hf88.clip
    have hf108 : Fl (Clip (fun b => w61.heap.size ≤ b) w92) w92 32 (.slice A84 n85 c86) n85 (digVals sg90.path) := hf89.clip
    refine qv 4 (.tuple #[(.agg #[(.int .i64 sg90.index), (.slice A78 n79 c80), (.slice A81 n82 c83), (.slice A84 n85 c86)]), (.int .i64 (signE sd many used idx msg))]) F104 rfl (rn_move (F104.get rfl)) fun _ F110 => ?_; clear F104
    refine qv 5 (.agg #[(.int .i64 sg90.index), (.slice A78 n79 c80), (.slice A81 n82 c83), (.slice A84 n85 c86)]) F110 rfl (rn_extract (F110.get rfl) rfl) fun _ F112 => ?_; clear F110
    refine qv 6 (.int .i64 (signE sd many used idx msg)) F112 rfl (rn_extract (F112.get rfl) rfl) fun _ F114 => ?_; clear F112
    refine wpl_op (i := 7) rfl (o_new (fun g => (.pointer (some ⟨g, 0, none⟩))) [(.int .i64 0), (.slice none 0 0), (.slice none 0 0), (.slice none 0 0)] 30 F114 rfl rfl rfl rfl (by kernel_rfl) ?_)
    intro g115 w116 a121 F122 z119 z120 b117 hx118; clear F114
    refine wpl_op (i := 8) rfl (o_store (cells := [(.int .i64 sg90.index), (.slice A78 n79 c80), (.slice A81 n82 c83), (.slice A84 n85 c86)]) F122 rfl rfl rfl rfl (F122.get rfl) (F122.get rfl) b117 inf30 rfl (by simp [Value.oneCell']) ?_)
    intro w123 b124 hg125; have z126 := hg125.size
    refine qv 9 (.int .i64 (signE sd many used idx msg)) F122 rfl (rn_assign (F122.get rfl)) fun _ F128 => ?_; clear F122
    refine wpList_nil ?_
    refine hK68 _ _ ?_
    clear hK68
    have F129 := ((((((((((((F128.nil.c F128 12 rfl).c F128 11 rfl).c F128 10 rfl).c F128 9 rfl).c F128 23 rfl).c F128 19 rfl).c F128 8 rfl).c F128 4 rfl).c F128 3 rfl).c F128 2 rfl).c F128 1 rfl).c F128 0 rfl)
    clear F128
    refine wp_seq_k (fun K130 hK130 => ?_)
    refine wp_seq_k (fun K131 hK131 => ?_)
    refine wp_region_lit ?_
    refine qv 0 (.int .i64 (pubE sd many used)) F129 rfl (rn_move (F129.get rfl)) fun _ F133 => ?_; clear F129
    refine qv 1 (.bool (decide (((pubE sd many used) : Int) ≠ (0 : Int)))) F133 rfl (rn_neq (F133.get rfl) rfl) fun _ F135 => ?_; clear F133
    refine wpList_nil ?_
    refine hK131 _ _ ?_
    clear hK131
    by_cases hc136 : ((pubE sd many used) : Int) ≠ (0 : Int)
    · skip
      refine wp_cond_true (c_true F135 rfl (decide_eq_true hc136)) ?_
      refine wp_seq_k (fun K137 hK137 => ?_)
      refine wp_region_lit ?_
      refine qv 0 (.int .i64 (signE sd many used idx msg)) F135 rfl (rn_move (F135.get rfl)) fun _ F139 => ?_; clear F135
      refine qv 1 (.bool (decide (((signE sd many used idx msg) : Int) = (40 : Int)))) F139 rfl (rn_eql (F139.get rfl) rfl) fun _ F141 => ?_; clear F139
      refine qv 2 (.bool (decide (((signE sd many used idx msg) : Int) = (40 : Int)))) F141 rfl (rn_assign (F141.get rfl)) fun _ F143 => ?_; clear F141
      refine wpList_nil ?_
      refine hK137 _ _ ?_
      clear hK137
      refine wp_ret ?_
      refine ret_then ?_
      refine ret1 F143 rfl rfl ?_
      exact ⟨congrArg (fun b => Ending.returned (.bool b)) (((decide_eq_true (signE1 (pub_no (of_decide_eq_true (decide_eq_true hc136))))) : decide (((signE sd many used idx msg) : Int) = (40 : Int)) = true) : decide (((signE sd many used idx msg) : Int) = (40 : Int)) = true), ((((((((((Ext.refl w).trans hx5).trans hx15).trans hx29).trans hx43).trans hx56).grownN hg63 (by omega)).trans hx93).trans hx118).grownN hg125 (by omega))⟩
    · skip
      refine wp_cond_false (c_false F135 rfl (decide_eq_false hc136)) ?_
      refine wp_skip ?_
      refine hK130 _ _ ?_
      clear hK130
      refine wp_seq_k (fun K144 hK144 => ?_)
      have hkk := pub_zero (sd := sd) (many := many) (used := used) (by have hq := of_decide_eq_false (decide_eq_false hc136); omega)
      have hko := kOk_iff.1 hkk
      have hiff := sign_iff (idx := idx) (msg := msg) hkk (by omega)
      refine wp_region_lit ?_
      have b145 := (((b69.ext hx93).ext hx118).grownN hg125 (by omega))
      refine qv 0 (.agg #[(.slice A sd.length c), (.int .i64 many), (.int .i64 used)]) F135 rfl (rn_loadBlk (F135.get rfl) b145 Tryd.underlying24 rfl inf24) fun _ F147 => ?_; clear F135
      refine wpl_op (i := 1) rfl (o_new (fun g => (.pointer (some ⟨g, 0, none⟩))) [(.slice none 0 0), (.int .i64 0), (.int .i64 0)] 24 F147 rfl rfl rfl rfl (by kernel_rfl) ?_)
      intro g148 w149 a154 F155 z152 z153 b150 hx151; clear F147
      refine wpl_op (i := 2) rfl (o_store (cells := [(.slice A sd.length c), (.int .i64 many), (.int .i64 used)]) F155 rfl rfl rfl rfl (F155.get rfl) (F155.get rfl) b150 inf24 rfl (by simp [Value.oneCell']) ?_)
      intro w156 b157 hg158; have z159 := hg158.size
      refine wpList_nil ?_
      refine hK144 _ _ ?_
      clear hK144
      refine wp_seq_k (fun K160 hK160 => ?_)
      refine wp_region_lit ?_
      refine qv 0 (.int .i64 x) F155 rfl (rn_move (F155.get rfl)) fun _ F162 => ?_; clear F155
      refine qv 1 (.pointer (some ⟨g2, 1, none⟩)) F162 rfl (rn_field Tryd.underlying24 rfl (by kernel_rfl) (F162.get rfl) rfl) fun _ F164 => ?_; clear F162
      have b165 := ((b145.ext hx151).grownN hg158 (by omega))
      refine qv 2 (.int .i64 many) F164 rfl (rn_load (isAgg_no Tryd.underlying3 rfl) (F164.get rfl) (b165.rule.1 1)) fun _ F167 => ?_; clear F164
      refine qv 3 (.int .i64 (min (x : Int) (many : Int))) F167 rfl (rn_min2 Tryd.underlying3 (F167.get rfl) (F167.get rfl)) fun _ F169 => ?_; clear F167
      refine qv 4 (.int .i64 (max (0 : Int) (min (x : Int) (many : Int) : Int))) F169 rfl (rn_max2 Tryd.underlying3 rfl (F169.get rfl)) fun _ F171 => ?_; clear F169
      refine qv 5 (.pointer (some ⟨g148, 2, none⟩)) F171 rfl (rn_field Tryd.underlying24 rfl (by kernel_rfl) (F171.get rfl) rfl) fun _ F173 => ?_; clear F171
      refine wpl_op (i := 6) rfl (o_store1 (new := [(.slice A sd.length c), (.int .i64 many), (.int .i64 (max (0 : Int) (min (x : Int) (many : Int) : Int)))]) F173 rfl rfl rfl rfl (F173.get rfl) (F173.get rfl) b157 inf3 (by simp) rfl rfl ?_)
      intro w174 b175 hg176; have z177 := hg176.size
      refine wpList_nil ?_
      refine hK160 _ _ ?_
      clear hK160
      have F178 := ((((((((((((((F173.nil.c F173 13 rfl).c F173 37 rfl).c F173 12 rfl).c F173 11 rfl).c F173 10 rfl).c F173 9 rfl).c F173 23 rfl).c F173 19 rfl).c F173 8 rfl).c F173 4 rfl).c F173 3 rfl).c F173 2 rfl).c F173 1 rfl).c F173 0 rfl)
      clear F173
      refine wp_seq_k (fun K179 hK179 => ?_)
      refine wp_region_lit ?_
      refine qv 0 (.agg #[(.slice A sd.length c), (.int .i64 many), (.int .i64 (max (0 : Int) (min (x : Int) (many : Int) : Int)))]) F178 rfl (rn_loadBlk (F178.get rfl) b175 Tryd.underlying24 rfl inf24) fun _ F181 => ?_; clear F178
      have d182 := (hc.pres (((((((((((((Pres.refl w).ext hx5).ext hx15).ext hx29).ext hx43).ext hx56).grownN hg63 (fun h => by simp only [Clip] at h; omega)).ext hx93).ext hx118).grownN hg125 (fun h => by simp only [Clip] at h; omega)).ext hx151).grownN hg158 (fun h => by simp only [Clip] at h; omega)).grownN hg176 (fun h => by simp only [Clip] at h; omega)))
      refine wpl_op (i := 1) rfl (o_call F181 rfl rfl rfl rfl (rn_call (args1 (F181.get rfl)) rfl (by kernel_rfl)) (pub_at (v := (.slice A sd.length c)) (m := sd.length) sd many (max (0 : Int) (min (x : Int) (many : Int) : Int)) _ d182 (hG.ext (((((((((((((Ext.refl w).trans hx5).trans hx15).trans hx29).trans hx43).trans hx56).grownN hg63 (by omega)).trans hx93).trans hx118).grownN hg125 (by omega)).trans hx151).grownN hg158 (by omega)).grownN hg176 (by omega)))) ?_)
      rintro _ w183 ⟨rfl, hx184⟩
      refine ⟨_, rfl, ?_⟩; intro a185 F186; clear F181; have z187 := hx184.size
      refine qv 2 (.tuple #[(.agg (byteVals (pubF sd many (max (0 : Int) (min (x : Int) (many : Int) : Int)))).toArray), (.int .i64 (pubE sd many (max (0 : Int) (min (x : Int) (many : Int) : Int))))]) F186 rfl (rn_move (F186.get rfl)) fun _ F189 => ?_; clear F186
      refine qv 3 (.agg (byteVals (pubF sd many (max (0 : Int) (min (x : Int) (many : Int) : Int)))).toArray) F189 rfl (rn_extract (F189.get rfl) rfl) fun _ F191 => ?_; clear F189
      refine qv 4 (.int .i64 (pubE sd many (max (0 : Int) (min (x : Int) (many : Int) : Int)))) F191 rfl (rn_extract (F191.get rfl) rfl) fun _ F193 => ?_; clear F191
      refine wpl_op (i := 5) rfl (o_new (fun g => (.pointer (some ⟨g, 0, none⟩))) (byteVals (List.replicate 32 0)) 37 F193 rfl rfl rfl rfl (by kernel_rfl) ?_)
      intro g194 w195 a200 F201 z198 z199 b196 hx197; clear F193
      refine wpl_op (i := 6) rfl (o_store (cells := (byteVals (pubF sd many (max (0 : Int) (min (x : Int) (many : Int) : Int))))) F201 rfl rfl rfl rfl (F201.get rfl) (F201.get rfl) b196 (inf37.trans (congrArg some (byteVals_len (pubF_len _ _ _)).symm)) ((byteVals_len (show List.length (List.replicate 32 0) = _ from List.length_replicate)).trans (byteVals_len (pubF_len _ _ _)).symm) (byteVals_one _) ?_)
      intro w202 b203 hg204; have z205 := hg204.size
      refine qv 7 (.int .i64 (pubE sd many (max (0 : Int) (min (x : Int) (many : Int) : Int)))) F201 rfl (rn_assign (F201.get rfl)) fun _ F207 => ?_; clear F201
      refine wpList_nil ?_
      refine hK179 _ _ ?_
      clear hK179
      have F208 := ((((((((((((((((F207.nil.c F207 15 rfl).c F207 14 rfl).c F207 13 rfl).c F207 37 rfl).c F207 12 rfl).c F207 11 rfl).c F207 10 rfl).c F207 9 rfl).c F207 23 rfl).c F207 19 rfl).c F207 8 rfl).c F207 4 rfl).c F207 3 rfl).c F207 2 rfl).c F207 1 rfl).c F207 0 rfl)
      clear F207
      refine wp_seq_k (fun K209 hK209 => ?_)
      refine wp_region_lit ?_
      have b210 := (((b175.ext hx184).ext hx197).grownN hg204 (by omega))
      refine qv 0 (.agg #[(.slice A sd.length c), (.int .i64 many), (.int .i64 (max (0 : Int) (min (x : Int) (many : Int) : Int)))]) F208 rfl (rn_loadBlk (F208.get rfl) b210 Tryd.underlying24 rfl inf24) fun _ F212 => ?_; clear F208
      refine qv 1 (.int .i64 idx) F212 rfl (rn_move (F212.get rfl)) fun _ F214 => ?_; clear F212
      refine qv 2 (.slice B msg.length bc) F214 rfl (rn_move (F214.get rfl)) fun _ F216 => ?_; clear F214
      have d217 := (hc.pres ((((((((((((((((Pres.refl w).ext hx5).ext hx15).ext hx29).ext hx43).ext hx56).grownN hg63 (fun h => by simp only [Clip] at h; omega)).ext hx93).ext hx118).grownN hg125 (fun h => by simp only [Clip] at h; omega)).ext hx151).grownN hg158 (fun h => by simp only [Clip] at h; omega)).grownN hg176 (fun h => by simp only [Clip] at h; omega)).ext hx184).ext hx197).grownN hg204 (fun h => by simp only [Clip] at h; omega)))
      have d218 := (hmk.pres ((((((((((((((((Pres.refl w).ext hx5).ext hx15).ext hx29).ext hx43).ext hx56).grownN hg63 (fun h => by simp only [Clip] at h; omega)).ext hx93).ext hx118).grownN hg125 (fun h => by simp only [Clip] at h; omega)).ext hx151).grownN hg158 (fun h => by simp only [Clip] at h; omega)).grownN hg176 (fun h => by simp only [Clip] at h; omega)).ext hx184).ext hx197).grownN hg204 (fun h => by simp only [Clip] at h; omega)))
      refine wpl_op (i := 3) rfl (o_call F216 rfl rfl rfl rfl (rn_call (args3 (F216.get rfl) (F216.get rfl) (F216.get rfl)) rfl (by kernel_rfl)) (sign_at (v := (.slice A sd.length c)) (m := sd.length) (u := (.slice B msg.length bc)) (n := msg.length) sd many (max (0 : Int) (min (x : Int) (many : Int) : Int)) idx msg _ d217 d218 (hG.ext ((((((((((((((((Ext.refl w).trans hx5).trans hx15).trans hx29).trans hx43).trans hx56).grownN hg63 (by omega)).trans hx93).trans hx118).grownN hg125 (by omega)).trans hx151).grownN hg158 (by omega)).grownN hg176 (by omega)).trans hx184).trans hx197).grownN hg204 (by omega)))) ?_)
      obtain ⟨sg231, hsg232⟩ : ∃ z, z = signF sd many (max (0 : Int) (min (x : Int) (many : Int) : Int)) idx msg := ⟨_, rfl⟩
      rw [← hsg232]
      rintro _ w233 ⟨A219, n220, c221, A222, n223, c224, A225, n226, c227, rfl, hf228, hf229, hf230, hx234⟩
      have h32235 : All32 sg231.op := by rw [hsg232]; exact signF_o _ _ _ _ _
      have z236 := (Fl.cel hf228).2.1; have z237 := Fl.dlen hf228 h32235
      have h32238 : All32 sg231.cl := by rw [hsg232]; exact signF_c _ _ _ _ _
      have z239 := (Fl.cel hf229).2.1; have z240 := Fl.dlen hf229 h32238
      have h32241 : All32 sg231.path := by rw [hsg232]; exact signF_p _ _ _ _ _
      have z242 := (Fl.cel hf230).2.1; have z243 := Fl.dlen hf230 h32241
      refine ⟨_, rfl, ?_⟩; intro a244 F245; clear F216; have z246 := hx234.size
      have hf247 : Fl (Clip (fun b => w202.heap.size ≤ b) w233) w233 32 (.slice A219 n220 c221) n220 (digVals sg231.op) := hf228.clip
      have hf248 : Fl (Clip (fun b => w202.heap.size ≤ b) w233) w233 32 (.slice A222 n223 c224) n223 (digVals sg231.cl) := hf229.clip
      have hf249 : Fl (Clip (fun b => w202.heap.size ≤ b) w233) w233 32 (.slice A225 n226 c227) n226 (digVals sg231.path) := hf230.clip
      refine qv 4 (.tuple #[(.agg #[(.int .i64 sg231.index), (.slice A219 n220 c221), (.slice A222 n223 c224), (.slice A225 n226 c227)]), (.int .i64 (signE sd many (max (0 : Int) (min (x : Int) (many : Int) : Int)) idx msg))]) F245 rfl (rn_move (F245.get rfl)) fun _ F251 => ?_; clear F245
      refine qv 5 (.agg #[(.int .i64 sg231.index), (.slice A219 n220 c221), (.slice A222 n223 c224), (.slice A225 n226 c227)]) F251 rfl (rn_extract (F251.get rfl) rfl) fun _ F253 => ?_; clear F251
      refine qv 6 (.int .i64 (signE sd many (max (0 : Int) (min (x : Int) (many : Int) : Int)) idx msg)) F253 rfl (rn_extract (F253.get rfl) rfl) fun _ F255 => ?_; clear F253
      refine wpl_op (i := 7) rfl (o_new (fun g => (.pointer (some ⟨g, 0, none⟩))) [(.int .i64 0), (.slice none 0 0), (.slice none 0 0), (.slice none 0 0)] 30 F255 rfl rfl rfl rfl (by kernel_rfl) ?_)
      intro g256 w257 a262 F263 z260 z261 b258 hx259; clear F255
      refine wpl_op (i := 8) rfl (o_store (cells := [(.int .i64 sg231.index), (.slice A219 n220 c221), (.slice A222 n223 c224), (.slice A225 n226 c227)]) F263 rfl rfl rfl rfl (F263.get rfl) (F263.get rfl) b258 inf30 rfl (by simp [Value.oneCell']) ?_)
      intro w264 b265 hg266; have z267 := hg266.size
      refine qv 9 (.int .i64 (signE sd many (max (0 : Int) (min (x : Int) (many : Int) : Int)) idx msg)) F263 rfl (rn_assign (F263.get rfl)) fun _ F269 => ?_; clear F263
      refine wpList_nil ?_
      refine hK209 _ _ ?_
      clear hK209
      have F270 := ((((((((((((((((((F269.nil.c F269 17 rfl).c F269 16 rfl).c F269 15 rfl).c F269 14 rfl).c F269 13 rfl).c F269 37 rfl).c F269 12 rfl).c F269 11 rfl).c F269 10 rfl).c F269 9 rfl).c F269 23 rfl).c F269 19 rfl).c F269 8 rfl).c F269 4 rfl).c F269 3 rfl).c F269 2 rfl).c F269 1 rfl).c F269 0 rfl)
      clear F269
      refine wp_seq_k (fun K271 hK271 => ?_)
      refine wp_region_lit ?_
      refine qv 0 (.int .i64 (pubE sd many (max (0 : Int) (min (x : Int) (many : Int) : Int)))) F270 rfl (rn_move (F270.get rfl)) fun _ F273 => ?_; clear F270
      refine qv 1 (.bool (decide (((pubE sd many (max (0 : Int) (min (x : Int) (many : Int) : Int))) : Int) = (0 : Int)))) F273 rfl (rn_eql (F273.get rfl) rfl) fun _ F275 => ?_; clear F273
      refine qv 2 (.bool (decide (((pubE sd many (max (0 : Int) (min (x : Int) (many : Int) : Int))) : Int) = (0 : Int)))) F275 rfl (rn_move (F275.get rfl)) fun _ F277 => ?_; clear F275
      have b279 := (((b203.ext hx234).ext hx259).grownN hg266 (by omega))
      refine qg 3 (.agg (byteVals (pubF sd many (max (0 : Int) (min (x : Int) (many : Int) : Int)))).toArray) F277 ((decide_eq_true (used_p (u := max (0 : Int) (min (x : Int) (many : Int))) hkk (by omega) (by omega)).2) : decide (((pubE sd many (max (0 : Int) (min (x : Int) (many : Int) : Int))) : Int) = (0 : Int)) = true) (rn_loadBlk (F277.get rfl) b279 Tryd.underlying37 rfl (inf37.trans (congrArg some (byteVals_len (pubF_len _ _ _)).symm))) fun _ F281 => ?_; clear F277
      have b282 := ((((((((((((b62.ext hx93).ext hx118).grownN hg125 (by omega)).ext hx151).grownN hg158 (by omega)).grownN hg176 (by omega)).ext hx184).ext hx197).grownN hg204 (by omega)).ext hx234).ext hx259).grownN hg266 (by omega))
      refine qg 4 (.agg (byteVals (pubF sd many used)).toArray) F281 ((decide_eq_true (used_p (u := max (0 : Int) (min (x : Int) (many : Int))) hkk (by omega) (by omega)).2) : decide (((pubE sd many (max (0 : Int) (min (x : Int) (many : Int) : Int))) : Int) = (0 : Int)) = true) (rn_loadBlk (F281.get rfl) b282 Tryd.underlying37 rfl (inf37.trans (congrArg some (byteVals_len (pubF_len _ _ _)).symm))) fun _ F284 => ?_; clear F281
      refine qg 5 (.bool (decide (pubF sd many (max (0 : Int) (min (x : Int) (many : Int) : Int)) = pubF sd many used))) F284 ((decide_eq_true (used_p (u := max (0 : Int) (min (x : Int) (many : Int))) hkk (by omega) (by omega)).2) : decide (((pubE sd many (max (0 : Int) (min (x : Int) (many : Int) : Int))) : Int) = (0 : Int)) = true) (rn_eqA Tryd.underlying37 Tryd.underlying5 inf5 (by kernel_rfl) (F284.get rfl) (F284.get rfl) (pubF_len _ _ _) (pubF_len _ _ _)) fun _ F286 => ?_; clear F284
      refine qv 6 (.bool (decide (pubF sd many (max (0 : Int) (min (x : Int) (many : Int) : Int)) = pubF sd many used))) F286 rfl (rn_pickT (c_true F286 rfl ((decide_eq_true (used_p (u := max (0 : Int) (min (x : Int) (many : Int))) hkk (by omega) (by omega)).2) : decide (((pubE sd many (max (0 : Int) (min (x : Int) (many : Int) : Int))) : Int) = (0 : Int)) = true)) (F286.get rfl)) fun _ F288 => ?_; clear F286
      refine qv 7 (.bool (decide (pubF sd many (max (0 : Int) (min (x : Int) (many : Int) : Int)) = pubF sd many used))) F288 rfl (rn_move (F288.get rfl)) fun _ F290 => ?_; clear F288
      refine qg 8 (.int .i64 (signE sd many used idx msg)) F290 ((decide_eq_true (used_p (u := max (0 : Int) (min (x : Int) (many : Int))) hkk (by omega) (by omega)).1) : decide (pubF sd many (max (0 : Int) (min (x : Int) (many : Int) : Int)) = pubF sd many used) = true) (rn_move (F290.get rfl)) fun _ F293 => ?_; clear F290
      refine qg 9 (.int .i64 (signE sd many (max (0 : Int) (min (x : Int) (many : Int) : Int)) idx msg)) F293 ((decide_eq_true (used_p (u := max (0 : Int) (min (x : Int) (many : Int))) hkk (by omega) (by omega)).1) : decide (pubF sd many (max (0 : Int) (min (x : Int) (many : Int) : Int)) = pubF sd many used) = true) (rn_move (F293.get rfl)) fun _ F295 => ?_; clear F293
      refine qg 10 (.bool (decide (((signE sd many used idx msg) : Int) = ((signE sd many (max (0 : Int) (min (x : Int) (many : Int) : Int)) idx msg) : Int)))) F295 ((decide_eq_true (used_p (u := max (0 : Int) (min (x : Int) (many : Int))) hkk (by omega) (by omega)).1) : decide (pubF sd many (max (0 : Int) (min (x : Int) (many : Int) : Int)) = pubF sd many used) = true) (rn_eql (F295.get rfl) (F295.get rfl)) fun _ F297 => ?_; clear F295
      refine qv 11 (.bool (decide (((signE sd many used idx msg) : Int) = ((signE sd many (max (0 : Int) (min (x : Int) (many : Int) : Int)) idx msg) : Int)))) F297 rfl (rn_pickT (c_true F297 rfl ((decide_eq_true (used_p (u := max (0 : Int) (min (x : Int) (many : Int))) hkk (by omega) (by omega)).1) : decide (pubF sd many (max (0 : Int) (min (x : Int) (many : Int) : Int)) = pubF sd many used) = true)) (F297.get rfl)) fun _ F299 => ?_; clear F297
      refine qv 12 (.bool (decide (((signE sd many used idx msg) : Int) = ((signE sd many (max (0 : Int) (min (x : Int) (many : Int) : Int)) idx msg) : Int)))) F299 rfl (rn_move (F299.get rfl)) fun _ F301 => ?_; clear F299
      have b303 := (((((((((b124.ext hx151).grownN hg158 (by omega)).grownN hg176 (by omega)).ext hx184).ext hx197).grownN hg204 (by omega)).ext hx234).ext hx259).grownN hg266 (by omega))
      refine qg 13 (.agg #[(.int .i64 sg90.index), (.slice A78 n79 c80), (.slice A81 n82 c83), (.slice A84 n85 c86)]) F301 ((decide_eq_true (used_e (u := max (0 : Int) (min (x : Int) (many : Int))) hkk (by omega) (by omega)).symm) : decide (((signE sd many used idx msg) : Int) = ((signE sd many (max (0 : Int) (min (x : Int) (many : Int) : Int)) idx msg) : Int)) = true) (rn_loadBlk (F301.get rfl) b303 Tryd.underlying30 rfl inf30) fun _ F305 => ?_; clear F301
      refine qg 14 (.agg #[(.int .i64 sg231.index), (.slice A219 n220 c221), (.slice A222 n223 c224), (.slice A225 n226 c227)]) F305 ((decide_eq_true (used_e (u := max (0 : Int) (min (x : Int) (many : Int))) hkk (by omega) (by omega)).symm) : decide (((signE sd many used idx msg) : Int) = ((signE sd many (max (0 : Int) (min (x : Int) (many : Int) : Int)) idx msg) : Int)) = true) (rn_loadBlk (F305.get rfl) b265 Tryd.underlying30 rfl inf30) fun _ F307 => ?_; clear F305
      have d308 := (hf106.pres ((((((((((((Pres.refl w92).ext hx118).grownN hg125 (fun h => by simp only [Clip] at h; omega)).ext hx151).grownN hg158 (fun h => by simp only [Clip] at h; omega)).grownN hg176 (fun h => by simp only [Clip] at h; omega)).ext hx184).ext hx197).grownN hg204 (fun h => by simp only [Clip] at h; omega)).ext hx234).ext hx259).grownN hg266 (fun h => by simp only [Clip] at h; omega)))
      have d309 := (hf107.pres ((((((((((((Pres.refl w92).ext hx118).grownN hg125 (fun h => by simp only [Clip] at h; omega)).ext hx151).grownN hg158 (fun h => by simp only [Clip] at h; omega)).grownN hg176 (fun h => by simp only [Clip] at h; omega)).ext hx184).ext hx197).grownN hg204 (fun h => by simp only [Clip] at h; omega)).ext hx234).ext hx259).grownN hg266 (fun h => by simp only [Clip] at h; omega)))
      have d310 := (hf108.pres ((((((((((((Pres.refl w92).ext hx118).grownN hg125 (fun h => by simp only [Clip] at h; omega)).ext hx151).grownN hg158 (fun h => by simp only [Clip] at h; omega)).grownN hg176 (fun h => by simp only [Clip] at h; omega)).ext hx184).ext hx197).grownN hg204 (fun h => by simp only [Clip] at h; omega)).ext hx234).ext hx259).grownN hg266 (fun h => by simp only [Clip] at h; omega)))
      have d311 := (hf247.pres (((Pres.refl w233).ext hx259).grownN hg266 (fun h => by simp only [Clip] at h; omega)))
      have d312 := (hf248.pres (((Pres.refl w233).ext hx259).grownN hg266 (fun h => by simp only [Clip] at h; omega)))
      have d313 := (hf249.pres (((Pres.refl w233).ext hx259).grownN hg266 (fun h => by simp only [Clip] at h; omega)))
      refine wpl_op (i := 15) rfl (o_call F307 rfl (wanted_guard rfl rfl rfl F307 rfl ((decide_eq_true (used_e (u := max (0 : Int) (min (x : Int) (many : Int))) hkk (by omega) (by omega)).symm) : decide (((signE sd many used idx msg) : Int) = ((signE sd many (max (0 : Int) (min (x : Int) (many : Int) : Int)) idx msg) : Int)) = true) rfl) rfl rfl (rn_call (args2 (F307.get rfl) (F307.get rfl)) rfl (by kernel_rfl)) (sames_at (n1 := n79) (n2 := n82) (n3 := n85) (m1 := n220) (m2 := n223) (m3 := n226) sg90 sg231 _ d308 d309 d310 h3294 h3297 h32100 d311 d312 d313 h32235 h32238 h32241) ?_)
      rintro _ w314 ⟨rfl, hx315⟩
      refine ⟨_, rfl, ?_⟩; intro a316 F317; clear F307; have z318 := hx315.size
      refine qv 16 (.bool (sameS sg90 sg231)) F317 rfl (rn_pickT (c_true F317 rfl ((decide_eq_true (used_e (u := max (0 : Int) (min (x : Int) (many : Int))) hkk (by omega) (by omega)).symm) : decide (((signE sd many used idx msg) : Int) = ((signE sd many (max (0 : Int) (min (x : Int) (many : Int) : Int)) idx msg) : Int)) = true)) (F317.get rfl)) fun _ F320 => ?_; clear F317
      refine qv 17 (.bool (sameS sg90 sg231)) F320 rfl (rn_move (F320.get rfl)) fun _ F322 => ?_; clear F320
      have hsg324 : sg231 = sg90 := by rw [hsg232, used_f (u := max (0 : Int) (min (x : Int) (many : Int))) hkk (by omega) (by omega)]; exact hsg91.symm
      refine qg 18 (.int .i64 (signE sd many used idx msg)) F322 ((by rw [hsg324]; exact sameS_refl _) : sameS sg90 sg231 = true) (rn_move (F322.get rfl)) fun _ F326 => ?_; clear F322
      refine qg 19 (.bool (decide (((signE sd many used idx msg) : Int) = (0 : Int)))) F326 ((by rw [hsg324]; exact sameS_refl _) : sameS sg90 sg231 = true) (rn_eql (F326.get rfl) rfl) fun _ F328 => ?_; clear F326
      refine qg 20 (.int .i64 idx) F328 ((by rw [hsg324]; exact sameS_refl _) : sameS sg90 sg231 = true) (rn_move (F328.get rfl)) fun _ F330 => ?_; clear F328
      refine qg 21 (.bool (decide ((0 : Int) ≤ (idx : Int)))) F330 ((by rw [hsg324]; exact sameS_refl _) : sameS sg90 sg231 = true) (rn_geq (F330.get rfl) rfl) fun _ F332 => ?_; clear F330
      refine qg 22 (.bool (decide ((0 : Int) ≤ (idx : Int)))) F332 ((by rw [hsg324]; exact sameS_refl _) : sameS sg90 sg231 = true) (rn_move (F332.get rfl)) fun _ F334 => ?_; clear F332
      by_cases hc335 : (0 : Int) ≤ (idx : Int)
      · skip
        refine qg 23 (.int .i64 idx) F334 (decide_eq_true hc335) (rn_move (F334.get rfl)) fun _ F337 => ?_; clear F334
        refine qg 24 (.pointer (some ⟨g2, 1, none⟩)) F337 (decide_eq_true hc335) (rn_field Tryd.underlying24 rfl (by kernel_rfl) (F337.get rfl) rfl) fun _ F339 => ?_; clear F337
        have b340 := ((((((((b165.grownN hg176 (by omega)).ext hx184).ext hx197).grownN hg204 (by omega)).ext hx234).ext hx259).grownN hg266 (by omega)).ext hx315)
        refine qg 25 (.int .i64 many) F339 (decide_eq_true hc335) (rn_load (isAgg_no Tryd.underlying3 rfl) (F339.get rfl) (b340.rule.1 1)) fun _ F342 => ?_; clear F339
        refine qg 26 (.bool (decide ((idx : Int) < (many : Int)))) F342 (decide_eq_true hc335) (rn_lss (F342.get rfl) (F342.get rfl)) fun _ F344 => ?_; clear F342
        refine qg 27 (.bool (decide ((idx : Int) < (many : Int)))) F344 ((by rw [hsg324]; exact sameS_refl _) : sameS sg90 sg231 = true) (rn_pickT (c_true F344 rfl (decide_eq_true hc335)) (F344.get rfl)) fun _ F346 => ?_; clear F344
        by_cases hc347 : ((signE sd many used idx msg) : Int) = (0 : Int)
        · skip
          by_cases hc348 : (idx : Int) < (many : Int)
          · skip
            refine qg 28 (.bool true) F346 ((by rw [hsg324]; exact sameS_refl _) : sameS sg90 sg231 = true) (rn_eqB Tryd.underlying4 (F346.get rfl) (F346.get rfl) (show _ = true from (decide_eq_true hc347)) (show _ = true from (decide_eq_true hc348)) rfl) fun _ F350 => ?_; clear F346
            refine qv 29 (.bool true) F350 rfl (rn_pickT (c_true F350 rfl ((by rw [hsg324]; exact sameS_refl _) : sameS sg90 sg231 = true)) (F350.get rfl)) fun _ F352 => ?_; clear F350
            refine qv 30 (.bool true) F352 rfl (rn_assign (F352.get rfl)) fun _ F354 => ?_; clear F352
            refine wpList_nil ?_
            refine hK271 _ _ ?_
            clear hK271
            have F355 := ((((((((((((((((((F354.nil.c F354 17 rfl).c F354 16 rfl).c F354 15 rfl).c F354 14 rfl).c F354 13 rfl).c F354 37 rfl).c F354 12 rfl).c F354 11 rfl).c F354 10 rfl).c F354 9 rfl).c F354 23 rfl).c F354 19 rfl).c F354 8 rfl).c F354 4 rfl).c F354 3 rfl).c F354 2 rfl).c F354 1 rfl).c F354 0 rfl)
            clear F354
            refine wp_ret ?_
            refine ret1 F355 rfl rfl ?_
            exact ⟨congrArg (fun b => Ending.returned (.bool b)) (rfl : true = true), ((((((((((((((((((((Ext.refl w).trans hx5).trans hx15).trans hx29).trans hx43).trans hx56).grownN hg63 (by omega)).trans hx93).trans hx118).grownN hg125 (by omega)).trans hx151).grownN hg158 (by omega)).grownN hg176 (by omega)).trans hx184).trans hx197).grownN hg204 (by omega)).trans hx234).trans hx259).grownN hg266 (by omega)).trans hx315)⟩
          · skip
            refine qg 28 (.bool false) F346 ((by rw [hsg324]; exact sameS_refl _) : sameS sg90 sg231 = true) (rn_eqB Tryd.underlying4 (F346.get rfl) (F346.get rfl) (show _ = true from (decide_eq_true hc347)) (show _ = false from (decide_eq_false hc348)) rfl) fun _ F357 => ?_; clear F346
            refine qv 29 (.bool false) F357 rfl (rn_pickT (c_true F357 rfl ((by rw [hsg324]; exact sameS_refl _) : sameS sg90 sg231 = true)) (F357.get rfl)) fun _ F359 => ?_; clear F357
            refine qv 30 (.bool false) F359 rfl (rn_assign (F359.get rfl)) fun _ F361 => ?_; clear F359
            refine wpList_nil ?_
            refine hK271 _ _ ?_
            clear hK271
            have F362 := ((((((((((((((((((F361.nil.c F361 17 rfl).c F361 16 rfl).c F361 15 rfl).c F361 14 rfl).c F361 13 rfl).c F361 37 rfl).c F361 12 rfl).c F361 11 rfl).c F361 10 rfl).c F361 9 rfl).c F361 23 rfl).c F361 19 rfl).c F361 8 rfl).c F361 4 rfl).c F361 3 rfl).c F361 2 rfl).c F361 1 rfl).c F361 0 rfl)
            clear F361
            refine wp_ret ?_
            refine ret1 F362 rfl rfl ?_
            exfalso; omega
        · skip
          by_cases hc363 : (idx : Int) < (many : Int)
          · skip
            refine qg 28 (.bool false) F346 ((by rw [hsg324]; exact sameS_refl _) : sameS sg90 sg231 = true) (rn_eqB Tryd.underlying4 (F346.get rfl) (F346.get rfl) (show _ = false from (decide_eq_false hc347)) (show _ = true from (decide_eq_true hc363)) rfl) fun _ F365 => ?_; clear F346
            refine qv 29 (.bool false) F365 rfl (rn_pickT (c_true F365 rfl ((by rw [hsg324]; exact sameS_refl _) : sameS sg90 sg231 = true)) (F365.get rfl)) fun _ F367 => ?_; clear F365
            refine qv 30 (.bool false) F367 rfl (rn_assign (F367.get rfl)) fun _ F369 => ?_; clear F367
            refine wpList_nil ?_
            refine hK271 _ _ ?_
            clear hK271
            have F370 := ((((((((((((((((((F369.nil.c F369 17 rfl).c F369 16 rfl).c F369 15 rfl).c F369 14 rfl).c F369 13 rfl).c F369 37 rfl).c F369 12 rfl).c F369 11 rfl).c F369 10 rfl).c F369 9 rfl).c F369 23 rfl).c F369 19 rfl).c F369 8 rfl).c F369 4 rfl).c F369 3 rfl).c F369 2 rfl).c F369 1 rfl).c F369 0 rfl)
            clear F369
            refine wp_ret ?_
            refine ret1 F370 rfl rfl ?_
            exfalso; omega
          · skip
            refine qg 28 (.bool true) F346 ((by rw [hsg324]; exact sameS_refl _) : sameS sg90 sg231 = true) (rn_eqB Tryd.underlying4 (F346.get rfl) (F346.get rfl) (show _ = false from (decide_eq_false hc347)) (show _ = false from (decide_eq_false hc363)) rfl) fun _ F372 => ?_; clear F346
            refine qv 29 (.bool true) F372 rfl (rn_pickT (c_true F372 rfl ((by rw [hsg324]; exact sameS_refl _) : sameS sg90 sg231 = true)) (F372.get rfl)) fun _ F374 => ?_; clear F372
            refine qv 30 (.bool true) F374 rfl (rn_assign (F374.get rfl)) fun _ F376 => ?_; clear F374
            refine wpList_nil ?_
            refine hK271 _ _ ?_
            clear hK271
            have F377 := ((((((((((((((((((F376.nil.c F376 17 rfl).c F376 16 rfl).c F376 15 rfl).c F376 14 rfl).c F376 13 rfl).c F376 37 rfl).c F376 12 rfl).c F376 11 rfl).c F376 10 rfl).c F376 9 rfl).c F376 23 rfl).c F376 19 rfl).c F376 8 rfl).c F376 4 rfl).c F376 3 rfl).c F376 2 rfl).c F376 1 rfl).c F376 0 rfl)
            clear F376
            refine wp_ret ?_
            refine ret1 F377 rfl rfl ?_
            exact ⟨congrArg (fun b => Ending.returned (.bool b)) (rfl : true = true), ((((((((((((((((((((Ext.refl w).trans hx5).trans hx15).trans hx29).trans hx43).trans hx56).grownN hg63 (by omega)).trans hx93).trans hx118).grownN hg125 (by omega)).trans hx151).grownN hg158 (by omega)).grownN hg176 (by omega)).trans hx184).trans hx197).grownN hg204 (by omega)).trans hx234).trans hx259).grownN hg266 (by omega)).trans hx315)⟩
      · skip
        refine qu 23 F334 (decide_eq_false hc335) fun _ F379 => ?_; clear F334
        refine qu 24 F379 (decide_eq_false hc335) fun _ F381 => ?_; clear F379
        refine qu 25 F381 (decide_eq_false hc335) fun _ F383 => ?_; clear F381
        refine qu 26 F383 (decide_eq_false hc335) fun _ F385 => ?_; clear F383
        refine qg 27 (.bool false) F385 ((by rw [hsg324]; exact sameS_refl _) : sameS sg90 sg231 = true) (rn_pickF (c_false F385 rfl (decide_eq_false hc335)) rfl) fun _ F387 => ?_; clear F385
        by_cases hc388 : ((signE sd many used idx msg) : Int) = (0 : Int)
        · skip
          refine qg 28 (.bool false) F387 ((by rw [hsg324]; exact sameS_refl _) : sameS sg90 sg231 = true) (rn_eqB Tryd.underlying4 (F387.get rfl) (F387.get rfl) (show _ = true from (decide_eq_true hc388)) (show _ = false from rfl) rfl) fun _ F390 => ?_; clear F387
          refine qv 29 (.bool false) F390 rfl (rn_pickT (c_true F390 rfl ((by rw [hsg324]; exact sameS_refl _) : sameS sg90 sg231 = true)) (F390.get rfl)) fun _ F392 => ?_; clear F390
          refine qv 30 (.bool false) F392 rfl (rn_assign (F392.get rfl)) fun _ F394 => ?_; clear F392
          refine wpList_nil ?_
          refine hK271 _ _ ?_
          clear hK271
          have F395 := ((((((((((((((((((F394.nil.c F394 17 rfl).c F394 16 rfl).c F394 15 rfl).c F394 14 rfl).c F394 13 rfl).c F394 37 rfl).c F394 12 rfl).c F394 11 rfl).c F394 10 rfl).c F394 9 rfl).c F394 23 rfl).c F394 19 rfl).c F394 8 rfl).c F394 4 rfl).c F394 3 rfl).c F394 2 rfl).c F394 1 rfl).c F394 0 rfl)
          clear F394
          refine wp_ret ?_
          refine ret1 F395 rfl rfl ?_
          exfalso; omega
        · skip
          refine qg 28 (.bool true) F387 ((by rw [hsg324]; exact sameS_refl _) : sameS sg90 sg231 = true) (rn_eqB Tryd.underlying4 (F387.get rfl) (F387.get rfl) (show _ = false from (decide_eq_false hc388)) (show _ = false from rfl) rfl) fun _ F397 => ?_; clear F387
          refine qv 29 (.bool true) F397 rfl (rn_pickT (c_true F397 rfl ((by rw [hsg324]; exact sameS_refl _) : sameS sg90 sg231 = true)) (F397.get rfl)) fun _ F399 => ?_; clear F397
          refine qv 30 (.bool true) F399 rfl (rn_assign (F399.get rfl)) fun _ F401 => ?_; clear F399
          refine wpList_nil ?_
          refine hK271 _ _ ?_
          clear hK271
          have F402 := ((((((((((((((((((F401.nil.c F401 17 rfl).c F401 16 rfl).c F401 15 rfl).c F401 14 rfl).c F401 13 rfl).c F401 37 rfl).c F401 12 rfl).c F401 11 rfl).c F401 10 rfl).c F401 9 rfl).c F401 23 rfl).c F401 19 rfl).c F401 8 rfl).c F401 4 rfl).c F401 3 rfl).c F401 2 rfl).c F401 1 rfl).c F401 0 rfl)
          clear F401
          refine wp_ret ?_
          refine ret1 F402 rfl rfl ?_
          exact ⟨congrArg (fun b => Ending.returned (.bool b)) (rfl : true = true), ((((((((((((((((((((Ext.refl w).trans hx5).trans hx15).trans hx29).trans hx43).trans hx56).grownN hg63 (by omega)).trans hx93).trans hx118).grownN hg125 (by omega)).trans hx151).grownN hg158 (by omega)).grownN hg176 (by omega)).trans hx184).trans hx197).grownN hg204 (by omega)).trans hx234).trans hx259).grownN hg266 (by omega)).trans hx315)⟩
  · skip
    refine wp_cond_true (c_true F35 rfl (not_f (decide_eq_false hc36))) ?_
    refine wp_seq_k (fun K403 hK403 => ?_)
    refine wp_region_lit ?_
    refine qv 0 (.bool true) F35 rfl (rn_assign rfl) fun _ F405 => ?_; clear F35
    refine wpList_nil ?_
    refine hK403 _ _ ?_
    clear hK403
    refine wp_ret ?_
    refine ret_then ?_
    refine ret1 F405 rfl rfl ?_
    exact ⟨congrArg (fun b => Ending.returned (.bool b)) (rfl : true = true), ((((Ext.refl w).trans hx5).trans hx15).trans hx29)⟩

end Go.Proofs.YtmjgjopbeokajaaDoor

namespace Go.Proofs.YtmjgjopbeokajaaDoor
open Go.RowKit

variable {S S' : Nat → Prop}

set_option maxRecDepth 100000 in
set_option maxHeartbeats 1000000 in
theorem bitslaw_any (A : Option Addr) (c : Nat) (sd : List UInt8) (many used : Int) (idx : Int) (B : Option Addr) (bc : Nat) (msg : List UInt8) (C : Option Addr) (cc : Nat) (other : List UInt8) (w : World) (hf : Fl S w 1 (.slice A sd.length c) sd.length (byteVals sd)) (hm : Fl S w 1 (.slice B msg.length bc) msg.length (byteVals msg)) (ho : Fl S w 1 (.slice C other.length cc) other.length (byteVals other)) (hG : Glob w) :
    Calls Tryd.prog 9 #[.agg #[.slice A sd.length c, .int .i64 many, .int .i64 used], .int .i64 idx, .slice B msg.length bc, .slice C other.length cc] w (fun e w' => e = .returned (.bool true) ∧ Ext w w') := by
  have hc : Fl (Clip S w) w 1 (.slice A sd.length c) sd.length (byteVals sd) := hf.clip
  have hcc := (Fl.cel hc).2.1
  have hmk : Fl (Clip S w) w 1 (.slice B msg.length bc) msg.length (byteVals msg) := hm.clip
  have hmkc := (Fl.cel hmk).2.1
  have hok : Fl (Clip S w) w 1 (.slice C other.length cc) other.length (byteVals other) := ho.clip
  have hokc := (Fl.cel hok).2.1
  refine calls_enter (l := [(.agg #[(.slice A sd.length c), (.int .i64 many), (.int .i64 used)]), (.int .i64 idx), (.slice B msg.length bc), (.slice C other.length cc)]) Tryd.func9 rfl rfl rfl (fun aA hF => ?_)
  refine wp_seq_k (fun K1 hK1 => ?_)
  refine wp_region_lit ?_
  refine wpl_op (i := 0) rfl (o_new (fun g => (.pointer (some ⟨g, 0, none⟩))) [(.slice A sd.length c), (.int .i64 many), (.int .i64 used)] 24 hF rfl rfl rfl rfl (rn_box (hF.get rfl) (by kernel_rfl)) ?_)
  intro g2 w3 a8 F9 z6 z7 b4 hx5; clear hF
  refine qv 1 (.bool false) F9 rfl (rn_assign rfl) fun _ F11 => ?_; clear F9
  refine wpList_nil ?_
  refine hK1 _ _ ?_
  clear hK1
  refine wp_seq_k (fun K12 hK12 => ?_)
  refine wp_seq_k (fun K13 hK13 => ?_)
  refine wp_region_lit ?_
  refine wpl_op (i := 0) rfl (o_call F11 rfl rfl rfl rfl (rn_call (args0 ) rfl (by kernel_rfl)) (sane4 _ (hG.ext ((Ext.refl w).trans hx5))) ?_)
  rintro _ w14 ⟨rfl, hx15⟩
  refine ⟨_, rfl, ?_⟩; intro a16 F17; clear F11; have z18 := hx15.size
  refine qv 1 (.bool false) F17 rfl (rn_not' (F17.get rfl) rfl) fun _ F20 => ?_; clear F17
  refine wpList_nil ?_
  refine hK13 _ _ ?_
  clear hK13
  refine wp_cond_false (c_false F20 rfl rfl) ?_
  refine wp_skip ?_
  refine hK12 _ _ ?_
  clear hK12
  refine wp_seq_k (fun K21 hK21 => ?_)
  refine wp_seq_k (fun K22 hK22 => ?_)
  refine wp_region_lit ?_
  have b23 := (b4.ext hx15)
  refine qv 0 (.agg #[(.slice A sd.length c), (.int .i64 many), (.int .i64 used)]) F20 rfl (rn_loadBlk (F20.get rfl) b23 Tryd.underlying24 rfl inf24) fun _ F25 => ?_; clear F20
  refine qv 1 (.slice B msg.length bc) F25 rfl (rn_move (F25.get rfl)) fun _ F27 => ?_; clear F25
  refine wpl_op (i := 2) rfl (o_call F27 rfl rfl rfl rfl (rn_call (args2 (F27.get rfl) (F27.get rfl)) rfl (by kernel_rfl)) (few_any A B c msg.length bc sd many used _) ?_)
  rintro _ w28 ⟨rfl, hx29⟩
  refine ⟨_, rfl, ?_⟩; intro a30 F31; clear F27; have z32 := hx29.size
  refine qv 3 (.bool (!(decide (((many ≤ 2 ∧ ((sd.length : Nat) : Int) ≤ 100) ∧ ((msg.length : Nat) : Int) ≤ 300))))) F31 rfl (rn_not' (F31.get rfl) rfl) fun _ F34 => ?_; clear F31
  refine qv 4 (.bool (!(decide (((many ≤ 2 ∧ ((sd.length : Nat) : Int) ≤ 100) ∧ ((msg.length : Nat) : Int) ≤ 300))))) F34 rfl (rn_move (F34.get rfl)) fun _ F36 => ?_; clear F34
  by_cases hc37 : ((many ≤ 2 ∧ ((sd.length : Nat) : Int) ≤ 100) ∧ ((msg.length : Nat) : Int) ≤ 300)
  · skip
    have b38 := (b23.ext hx29)
    refine qg 5 (.agg #[(.slice A sd.length c), (.int .i64 many), (.int .i64 used)]) F36 (not_t (decide_eq_true hc37)) (rn_loadBlk (F36.get rfl) b38 Tryd.underlying24 rfl inf24) fun _ F40 => ?_; clear F36
    refine qg 6 (.slice C other.length cc) F40 (not_t (decide_eq_true hc37)) (rn_move (F40.get rfl)) fun _ F42 => ?_; clear F40
    refine wpl_op (i := 7) rfl (o_call F42 rfl (wanted_guard rfl rfl rfl F42 rfl (not_t (decide_eq_true hc37)) rfl) rfl rfl (rn_call (args2 (F42.get rfl) (F42.get rfl)) rfl (by kernel_rfl)) (few_any A C c other.length cc sd many used _) ?_)
    rintro _ w43 ⟨rfl, hx44⟩
    refine ⟨_, rfl, ?_⟩; intro a45 F46; clear F42; have z47 := hx44.size
    refine qg 8 (.bool (!(decide (((many ≤ 2 ∧ ((sd.length : Nat) : Int) ≤ 100) ∧ ((other.length : Nat) : Int) ≤ 300))))) F46 (not_t (decide_eq_true hc37)) (rn_not' (F46.get rfl) rfl) fun _ F49 => ?_; clear F46
    refine qv 9 (.bool (!(decide (((many ≤ 2 ∧ ((sd.length : Nat) : Int) ≤ 100) ∧ ((other.length : Nat) : Int) ≤ 300))))) F49 rfl (rn_pickF (c_false F49 rfl (not_t (decide_eq_true hc37))) (F49.get rfl)) fun _ F51 => ?_; clear F49
    refine wpList_nil ?_
    refine hK22 _ _ ?_
    clear hK22
    have F52 := ((((((((F51.nil.c F51 24 rfl).c F51 14 rfl).c F51 8 rfl).c F51 4 rfl).c F51 3 rfl).c F51 2 rfl).c F51 1 rfl).c F51 0 rfl)
    clear F51
    by_cases hc53 : ((many ≤ 2 ∧ ((sd.length : Nat) : Int) ≤ 100) ∧ ((other.length : Nat) : Int) ≤ 300)
    · skip
      refine wp_cond_false (c_false F52 rfl (not_t (decide_eq_true hc53))) ?_
      refine wp_skip ?_
      refine hK21 _ _ ?_
      clear hK21
      refine wp_seq_k (fun K54 hK54 => ?_)
      refine wp_region_lit ?_
      have b55 := (b38.ext hx44)
      refine qv 0 (.agg #[(.slice A sd.length c), (.int .i64 many), (.int .i64 used)]) F52 rfl (rn_loadBlk (F52.get rfl) b55 Tryd.underlying24 rfl inf24) fun _ F57 => ?_; clear F52
      have d58 := ((((hc.ext hx5).ext hx15).ext hx29).ext hx44)
      refine wpl_op (i := 1) rfl (o_call F57 rfl rfl rfl rfl (rn_call (args1 (F57.get rfl)) rfl (by kernel_rfl)) (pub_at (v := (.slice A sd.length c)) (m := sd.length) sd many used _ d58 (hG.ext (((((Ext.refl w).trans hx5).trans hx15).trans hx29).trans hx44))) ?_)
      rintro _ w59 ⟨rfl, hx60⟩
      refine ⟨_, rfl, ?_⟩; intro a61 F62; clear F57; have z63 := hx60.size
      refine qv 2 (.tuple #[(.agg (byteVals (pubF sd many used)).toArray), (.int .i64 (pubE sd many used))]) F62 rfl (rn_move (F62.get rfl)) fun _ F65 => ?_; clear F62
      refine qv 3 (.agg (byteVals (pubF sd many used)).toArray) F65 rfl (rn_extract (F65.get rfl) rfl) fun _ F67 => ?_; clear F65
      refine qv 4 (.int .i64 (pubE sd many used)) F67 rfl (rn_extract (F67.get rfl) rfl) fun _ F69 => ?_; clear F67
      refine wpl_op (i := 5) rfl (o_new (fun g => (.pointer (some ⟨g, 0, none⟩))) (byteVals (List.replicate 32 0)) 37 F69 rfl rfl rfl rfl (by kernel_rfl) ?_)
      intro g70 w71 a76 F77 z74 z75 b72 hx73; clear F69
      refine wpl_op (i := 6) rfl (o_store (cells := (byteVals (pubF sd many used))) F77 rfl rfl rfl rfl (F77.get rfl) (F77.get rfl) b72 (inf37.trans (congrArg some (byteVals_len (pubF_len _ _ _)).symm)) ((byteVals_len (show List.length (List.replicate 32 0) = _ from List.length_replicate)).trans (byteVals_len (pubF_len _ _ _)).symm) (byteVals_one _) ?_)
      intro w78 b79 hg80; have z81 := hg80.size
      refine qv 7 (.int .i64 (pubE sd many used)) F77 rfl (rn_assign (F77.get rfl)) fun _ F83 => ?_; clear F77
      refine wpList_nil ?_
      refine hK54 _ _ ?_
      clear hK54
      have F84 := ((((((((((F83.nil.c F83 10 rfl).c F83 9 rfl).c F83 24 rfl).c F83 14 rfl).c F83 8 rfl).c F83 4 rfl).c F83 3 rfl).c F83 2 rfl).c F83 1 rfl).c F83 0 rfl)
      clear F83
      refine wp_seq_k (fun K85 hK85 => ?_)
      refine wp_region_lit ?_
      have b86 := (((b55.ext hx60).ext hx73).grownN hg80 (by omega))
      refine qv 0 (.agg #[(.slice A sd.length c), (.int .i64 many), (.int .i64 used)]) F84 rfl (rn_loadBlk (F84.get rfl) b86 Tryd.underlying24 rfl inf24) fun _ F88 => ?_; clear F84
      refine qv 1 (.int .i64 idx) F88 rfl (rn_move (F88.get rfl)) fun _ F90 => ?_; clear F88
      refine qv 2 (.slice B msg.length bc) F90 rfl (rn_move (F90.get rfl)) fun _ F92 => ?_; clear F90
      have d93 := (hc.pres ((((((((Pres.refl w).ext hx5).ext hx15).ext hx29).ext hx44).ext hx60).ext hx73).grownN hg80 (fun h => by simp only [Clip] at h; omega)))
      have d94 := (hmk.pres ((((((((Pres.refl w).ext hx5).ext hx15).ext hx29).ext hx44).ext hx60).ext hx73).grownN hg80 (fun h => by simp only [Clip] at h; omega)))
      refine wpl_op (i := 3) rfl (o_call F92 rfl rfl rfl rfl (rn_call (args3 (F92.get rfl) (F92.get rfl) (F92.get rfl)) rfl (by kernel_rfl)) (sign_at (v := (.slice A sd.length c)) (m := sd.length) (u := (.slice B msg.length bc)) (n := msg.length) sd many used idx msg _ d93 d94 (hG.ext ((((((((Ext.refl w).trans hx5).trans hx15).trans hx29).trans hx44).trans hx60).trans hx73).grownN hg80 (by omega)))) ?_)
      obtain ⟨sg107, hsg108⟩ : ∃ z, z = signF sd many used idx msg := ⟨_, rfl⟩
      rw [← hsg108]
      rintro _ w109 ⟨A95, n96, c97, A98, n99, c100, A101, n102, c103, rfl, hf104, hf105, hf106, hx110⟩
      have h32111 : All32 sg107.op := by rw [hsg108]; exact signF_o _ _ _ _ _
      have z112 := (Fl.cel hf104).2.1; have z113 := Fl.dlen hf104 h32111
      have h32114 : All32 sg107.cl := by rw [hsg108]; exact signF_c _ _ _ _ _
      have z115 := (Fl.cel hf105).2.1; have z116 := Fl.dlen hf105 h32114
      have h32117 : All32 sg107.path := by rw [hsg108]; exact signF_p _ _ _ _ _
      have z118 := (Fl.cel hf106).2.1; have z119 := Fl.dlen hf106 h32117
      refine ⟨_, rfl, ?_⟩; intro a120 F121; clear F92; have z122 := hx110.size
      have hf123 : Fl (Clip (fun b => w78.heap.size ≤ b) w109) w109 32 (.slice A95 n96 c97) n96 (digVals sg107.op) := hf104.clip
      have hf124 : Fl (Clip (fun b => w78.heap.size ≤ b) w109) w109 32 (.slice A98 n99 c100) n99 (digVals sg107.cl) := hf105.clip
      have hf125 : Fl (Clip (fun b => w78.heap.size ≤ b) w109) w109 32 (.slice A101 n102 c103) n102 (digVals sg107.path) := hf106.clip
      refine qv 4 (.tuple #[(.agg #[(.int .i64 sg107.index), (.slice A95 n96 c97), (.slice A98 n99 c100), (.slice A101 n102 c103)]), (.int .i64 (signE sd many used idx msg))]) F121 rfl (rn_move (F121.get rfl)) fun _ F127 => ?_; clear F121
      refine qv 5 (.agg #[(.int .i64 sg107.index), (.slice A95 n96 c97), (.slice A98 n99 c100), (.slice A101 n102 c103)]) F127 rfl (rn_extract (F127.get rfl) rfl) fun _ F129 => ?_; clear F127
      refine qv 6 (.int .i64 (signE sd many used idx msg)) F129 rfl (rn_extract (F129.get rfl) rfl) fun _ F131 => ?_; clear F129
      refine wpl_op (i := 7) rfl (o_new (fun g => (.pointer (some ⟨g, 0, none⟩))) [(.int .i64 0), (.slice none 0 0), (.slice none 0 0), (.slice none 0 0)] 30 F131 rfl rfl rfl rfl (by kernel_rfl) ?_)
      intro g132 w133 a138 F139 z136 z137 b134 hx135; clear F131
      refine wpl_op (i := 8) rfl (o_store (cells := [(.int .i64 sg107.index), (.slice A95 n96 c97), (.slice A98 n99 c100), (.slice A101 n102 c103)]) F139 rfl rfl rfl rfl (F139.get rfl) (F139.get rfl) b134 inf30 rfl (by simp [Value.oneCell']) ?_)
      intro w140 b141 hg142; have z143 := hg142.size
      refine qv 9 (.int .i64 (signE sd many used idx msg)) F139 rfl (rn_assign (F139.get rfl)) fun _ F145 => ?_; clear F139
      refine wpList_nil ?_
      refine hK85 _ _ ?_
      clear hK85
      have F146 := ((((((((((((F145.nil.c F145 12 rfl).c F145 11 rfl).c F145 10 rfl).c F145 9 rfl).c F145 24 rfl).c F145 14 rfl).c F145 8 rfl).c F145 4 rfl).c F145 3 rfl).c F145 2 rfl).c F145 1 rfl).c F145 0 rfl)
      clear F145
      refine wp_seq_k (fun K147 hK147 => ?_)
      refine wp_seq_k (fun K148 hK148 => ?_)
      refine wp_region_lit ?_
      refine qv 0 (.int .i64 (pubE sd many used)) F146 rfl (rn_move (F146.get rfl)) fun _ F150 => ?_; clear F146
      refine qv 1 (.bool (decide (((pubE sd many used) : Int) ≠ (0 : Int)))) F150 rfl (rn_neq (F150.get rfl) rfl) fun _ F152 => ?_; clear F150
      refine qv 2 (.bool (decide (((pubE sd many used) : Int) ≠ (0 : Int)))) F152 rfl (rn_move (F152.get rfl)) fun _ F154 => ?_; clear F152
      by_cases hc155 : ((pubE sd many used) : Int) ≠ (0 : Int)
      · skip
        refine qu 3 F154 (decide_eq_true hc155) fun _ F157 => ?_; clear F154
        refine qu 4 F157 (decide_eq_true hc155) fun _ F159 => ?_; clear F157
        refine qv 5 (.bool true) F159 rfl (rn_pickT (c_true F159 rfl (decide_eq_true hc155)) rfl) fun _ F161 => ?_; clear F159
        refine wpList_nil ?_
        refine hK148 _ _ ?_
        clear hK148
        have F162 := (((((((((((((F161.nil.c F161 42 rfl).c F161 12 rfl).c F161 11 rfl).c F161 10 rfl).c F161 9 rfl).c F161 24 rfl).c F161 14 rfl).c F161 8 rfl).c F161 4 rfl).c F161 3 rfl).c F161 2 rfl).c F161 1 rfl).c F161 0 rfl)
        clear F161
        refine wp_cond_true (c_true F162 rfl rfl) ?_
        refine wp_seq_k (fun K163 hK163 => ?_)
        refine wp_region_lit ?_
        refine qv 0 (.bool true) F162 rfl (rn_assign rfl) fun _ F165 => ?_; clear F162
        refine wpList_nil ?_
        refine hK163 _ _ ?_
        clear hK163
        refine wp_ret ?_
        refine ret_then ?_
        refine ret1 F165 rfl rfl ?_
        exact ⟨congrArg (fun b => Ending.returned (.bool b)) (rfl : true = true), (((((((((((Ext.refl w).trans hx5).trans hx15).trans hx29).trans hx44).trans hx60).trans hx73).grownN hg80 (by omega)).trans hx110).trans hx135).grownN hg142 (by omega))⟩
      · skip
        refine qg 3 (.int .i64 (signE sd many used idx msg)) F154 (decide_eq_false hc155) (rn_move (F154.get rfl)) fun _ F167 => ?_; clear F154
        refine qg 4 (.bool (decide (((signE sd many used idx msg) : Int) ≠ (0 : Int)))) F167 (decide_eq_false hc155) (rn_neq (F167.get rfl) rfl) fun _ F169 => ?_; clear F167
        refine qv 5 (.bool (decide (((signE sd many used idx msg) : Int) ≠ (0 : Int)))) F169 rfl (rn_pickF (c_false F169 rfl (decide_eq_false hc155)) (F169.get rfl)) fun _ F171 => ?_; clear F169
        refine wpList_nil ?_
        refine hK148 _ _ ?_
        clear hK148
        have F172 := (((((((((((((F171.nil.c F171 42 rfl).c F171 12 rfl).c F171 11 rfl).c F171 10 rfl).c F171 9 rfl).c F171 24 rfl).c F171 14 rfl).c F171 8 rfl).c F171 4 rfl).c F171 3 rfl).c F171 2 rfl).c F171 1 rfl).c F171 0 rfl)
        clear F171
        by_cases hc173 : ((signE sd many used idx msg) : Int) ≠ (0 : Int)
        · skip
          refine wp_cond_true (c_true F172 rfl (decide_eq_true hc173)) ?_
          refine wp_seq_k (fun K174 hK174 => ?_)
          refine wp_region_lit ?_
          refine qv 0 (.bool true) F172 rfl (rn_assign rfl) fun _ F176 => ?_; clear F172
          refine wpList_nil ?_
          refine hK174 _ _ ?_
          clear hK174
          refine wp_ret ?_
          refine ret_then ?_
          refine ret1 F176 rfl rfl ?_
          exact ⟨congrArg (fun b => Ending.returned (.bool b)) (rfl : true = true), (((((((((((Ext.refl w).trans hx5).trans hx15).trans hx29).trans hx44).trans hx60).trans hx73).grownN hg80 (by omega)).trans hx110).trans hx135).grownN hg142 (by omega))⟩
        · skip
          refine wp_cond_false (c_false F172 rfl (decide_eq_false hc173)) ?_
          refine wp_skip ?_
          refine hK147 _ _ ?_
          clear hK147
          refine wp_seq_k (fun K177 hK177 => ?_)
          refine wp_seq_k (fun K178 hK178 => ?_)
          have hx180 : ∃ W, w140.drew = W ∧ Ext w140 W := ⟨_, rfl, (Ext.refl _).drew⟩
          obtain ⟨w179, e181, hx180⟩ := hx180
          have z182 := hx180.size
          refine any_start (fun W => Ext w179 W ∧ Blk W g70 37 (byteVals (pubF sd many used)) ∧ Blk W g132 30 [(.int .i64 sg107.index), (.slice A95 n96 c97), (.slice A98 n99 c100), (.slice A101 n102 c103)]) (fun i => false) 12 #[false, false, false, false, false, false, false, false, false, false, false, false] rfl rfl rfl ?_
          rw [e181]; clear e181
          have b184 := ((((b79.ext hx110).ext hx135).grownN hg142 (by omega)).ext hx180)
          have b185 := (b141.ext hx180)
          have hS183 : Ext w179 w179 ∧ Blk w179 g70 37 (byteVals (pubF sd many used)) ∧ Blk w179 g132 30 [(.int .i64 sg107.index), (.slice A95 n96 c97), (.slice A98 n99 c100), (.slice A101 n102 c103)] := ⟨(Ext.refl w179), b184, b185⟩
          refine qs 0 (.agg (byteVals (pubF sd many used)).toArray) F172 rfl rfl hS183 (fun W hW => (rn_loadBlk (F172.get rfl) hW.2.1 Tryd.underlying37 rfl (inf37.trans (congrArg some (byteVals_len (pubF_len _ _ _)).symm)))) fun _ F187 => ?_; clear F172
          refine qp 1 (.pointer (some ⟨g132, 0, none⟩)) F187 rfl rfl (fun W => (rn_field Tryd.underlying30 rfl (by kernel_rfl) (F187.get rfl) rfl)) fun _ F189 => ?_; clear F187
          refine qs 2 (.int .i64 sg107.index) F189 rfl rfl hS183 (fun W hW => (rn_load (isAgg_no Tryd.underlying3 rfl) (F189.get rfl) (hW.2.2.rule.1 0))) fun _ F191 => ?_; clear F189
          refine qp 3 (.slice B msg.length bc) F191 rfl rfl (fun W => (rn_move (F191.get rfl))) fun _ F193 => ?_; clear F191
          refine qs 5 (.agg (byteVals (pubF sd many used)).toArray) F193 rfl rfl hS183 (fun W hW => (rn_loadBlk (F193.get rfl) hW.2.1 Tryd.underlying37 rfl (inf37.trans (congrArg some (byteVals_len (pubF_len _ _ _)).symm)))) fun _ F195 => ?_; clear F193
          refine qp 6 (.pointer (some ⟨g132, 0, none⟩)) F195 rfl rfl (fun W => (rn_field Tryd.underlying30 rfl (by kernel_rfl) (F195.get rfl) rfl)) fun _ F197 => ?_; clear F195
          refine qs 7 (.int .i64 sg107.index) F197 rfl rfl hS183 (fun W hW => (rn_load (isAgg_no Tryd.underlying3 rfl) (F197.get rfl) (hW.2.2.rule.1 0))) fun _ F199 => ?_; clear F197
          refine qp 8 (.slice C other.length cc) F199 rfl rfl (fun W => (rn_move (F199.get rfl))) fun _ F201 => ?_; clear F199
          refine any_one (i := 4) (by decide +kernel) rfl ?_
          have d202 := (hmk.pres ((((((((((((Pres.refl w).ext hx5).ext hx15).ext hx29).ext hx44).ext hx60).ext hx73).grownN hg80 (fun h => by simp only [Clip] at h; omega)).ext hx110).ext hx135).grownN hg142 (fun h => by simp only [Clip] at h; omega)).ext hx180))
          refine o_call F201 rfl rfl rfl rfl (rn_call (args3 (F201.get rfl) (F201.get rfl) (F201.get rfl)) rfl (by kernel_rfl)) (bits_at (v := (.slice B msg.length bc)) (m := msg.length) (pubF sd many used) sg107.index msg _ (pubF_len _ _ _) d202 (hG.ext ((((((((((((Ext.refl w).trans hx5).trans hx15).trans hx29).trans hx44).trans hx60).trans hx73).grownN hg80 (by omega)).trans hx110).trans hx135).grownN hg142 (by omega)).trans hx180)) (by omega)) ?_
          rintro _ w209 ⟨A203, n204, c205, rfl, hf206, hx210⟩
          have z207 := (Fl.cel hf206).2.1; have z208 := Fl.blen2 hf206
          refine ⟨_, rfl, ?_⟩; intro a211 F212; clear F201; have z213 := hx210.size
          have hf214 : Fl (Clip (fun b => w179.heap.size ≤ b) w209) w209 1 (.slice A203 n204 c205) n204 (boolVals (bitsR (pubF sd many used) sg107.index msg)) := hf206.clip
          have b215 := (b184.ext hx210)
          have b216 := (b185.ext hx210)
          refine ⟨fun _ _ => ⟨((Ext.refl w179).trans hx210), b215, b216⟩, ?_⟩
          refine any_one (i := 9) (by decide +kernel) rfl ?_
          have d217 := (hok.pres (((((((((((((Pres.refl w).ext hx5).ext hx15).ext hx29).ext hx44).ext hx60).ext hx73).grownN hg80 (fun h => by simp only [Clip] at h; omega)).ext hx110).ext hx135).grownN hg142 (fun h => by simp only [Clip] at h; omega)).ext hx180).ext hx210))
          refine o_call F212 rfl rfl rfl rfl (rn_call (args3 (F212.get rfl) (F212.get rfl) (F212.get rfl)) rfl (by kernel_rfl)) (bits_at (v := (.slice C other.length cc)) (m := other.length) (pubF sd many used) sg107.index other _ (pubF_len _ _ _) d217 (hG.ext (((((((((((((Ext.refl w).trans hx5).trans hx15).trans hx29).trans hx44).trans hx60).trans hx73).grownN hg80 (by omega)).trans hx110).trans hx135).grownN hg142 (by omega)).trans hx180).trans hx210)) (by omega)) ?_
          rintro _ w224 ⟨A218, n219, c220, rfl, hf221, hx225⟩
          have z222 := (Fl.cel hf221).2.1; have z223 := Fl.blen2 hf221
          refine ⟨_, rfl, ?_⟩; intro a226 F227; clear F212; have z228 := hx225.size
          have hf229 : Fl (Clip (fun b => w209.heap.size ≤ b) w224) w224 1 (.slice A218 n219 c220) n219 (boolVals (bitsR (pubF sd many used) sg107.index other)) := hf221.clip
          have b230 := (b215.ext hx225)
          have b231 := (b216.ext hx225)
          refine ⟨fun _ _ => ⟨(((Ext.refl w179).trans hx210).trans hx225), b230, b231⟩, ?_⟩
          refine any_one (i := 10) (by decide +kernel) rfl ?_
          have d232 := (hf214.ext hx225)
          refine o_call F227 rfl rfl rfl rfl (rn_call (args2 (F227.get rfl) (F227.get rfl)) rfl (by kernel_rfl)) (sameb_at (bitsR (pubF sd many used) sg107.index msg) (bitsR (pubF sd many used) sg107.index other) _ d232 hf229) ?_
          rintro _ w233 ⟨rfl, hx234⟩
          refine ⟨_, rfl, ?_⟩; intro a235 F236; clear F227; have z237 := hx234.size
          have b238 := (b230.ext hx234)
          have b239 := (b231.ext hx234)
          refine ⟨fun _ _ => ⟨((((Ext.refl w179).trans hx210).trans hx225).trans hx234), b238, b239⟩, ?_⟩
          refine qp 11 (.bool (!(decide (bitsR (pubF sd many used) sg107.index msg = bitsR (pubF sd many used) sg107.index other)))) F236 rfl rfl (fun W => (rn_not' (F236.get rfl) rfl)) fun _ F241 => ?_; clear F236
          refine any_nil (by decide +kernel) ?_
          refine hK178 _ _ ?_
          clear hK178
          have F242 := ((((((((((((((F241.nil.c F241 54 rfl).c F241 42 rfl).c F241 12 rfl).c F241 11 rfl).c F241 10 rfl).c F241 9 rfl).c F241 24 rfl).c F241 14 rfl).c F241 8 rfl).c F241 4 rfl).c F241 3 rfl).c F241 2 rfl).c F241 1 rfl).c F241 0 rfl)
          clear F241
          by_cases hc243 : bitsR (pubF sd many used) sg107.index msg = bitsR (pubF sd many used) sg107.index other
          · skip
            refine wp_cond_false (c_false F242 rfl (not_t (decide_eq_true hc243))) ?_
            refine wp_skip ?_
            refine hK177 _ _ ?_
            clear hK177
            refine wp_seq_k (fun K244 hK244 => ?_)
            refine wp_region_lit ?_
            refine qv 0 (.agg (byteVals (pubF sd many used)).toArray) F242 rfl (rn_loadBlk (F242.get rfl) b238 Tryd.underlying37 rfl (inf37.trans (congrArg some (byteVals_len (pubF_len _ _ _)).symm))) fun _ F246 => ?_; clear F242
            refine qv 1 (.pointer (some ⟨g2, 1, none⟩)) F246 rfl (rn_field Tryd.underlying24 rfl (by kernel_rfl) (F246.get rfl) rfl) fun _ F248 => ?_; clear F246
            have b249 := (((((((b86.ext hx110).ext hx135).grownN hg142 (by omega)).ext hx180).ext hx210).ext hx225).ext hx234)
            refine qv 2 (.int .i64 many) F248 rfl (rn_load (isAgg_no Tryd.underlying3 rfl) (F248.get rfl) (b249.rule.1 1)) fun _ F251 => ?_; clear F248
            refine qv 3 (.slice C other.length cc) F251 rfl (rn_move (F251.get rfl)) fun _ F253 => ?_; clear F251
            refine qv 4 (.agg #[(.int .i64 sg107.index), (.slice A95 n96 c97), (.slice A98 n99 c100), (.slice A101 n102 c103)]) F253 rfl (rn_loadBlk (F253.get rfl) b239 Tryd.underlying30 rfl inf30) fun _ F255 => ?_; clear F253
            have d256 := (hok.pres (((((((((((((((Pres.refl w).ext hx5).ext hx15).ext hx29).ext hx44).ext hx60).ext hx73).grownN hg80 (fun h => by simp only [Clip] at h; omega)).ext hx110).ext hx135).grownN hg142 (fun h => by simp only [Clip] at h; omega)).ext hx180).ext hx210).ext hx225).ext hx234))
            have d257 := (hf123.pres (((((((Pres.refl w109).ext hx135).grownN hg142 (fun h => by simp only [Clip] at h; omega)).ext hx180).ext hx210).ext hx225).ext hx234))
            have d258 := (hf124.pres (((((((Pres.refl w109).ext hx135).grownN hg142 (fun h => by simp only [Clip] at h; omega)).ext hx180).ext hx210).ext hx225).ext hx234))
            have d259 := (hf125.pres (((((((Pres.refl w109).ext hx135).grownN hg142 (fun h => by simp only [Clip] at h; omega)).ext hx180).ext hx210).ext hx225).ext hx234))
            refine wpl_op (i := 5) rfl (o_call F255 rfl rfl rfl rfl (rn_call (args4 (F255.get rfl) (F255.get rfl) (F255.get rfl) (F255.get rfl)) rfl (by kernel_rfl)) (verify_at (v := (.slice C other.length cc)) (m := other.length) (u1 := (.slice A95 n96 c97)) (u2 := (.slice A98 n99 c100)) (u3 := (.slice A101 n102 c103)) (n1 := n96) (n2 := n99) (n3 := n102) (pubF sd many used) many other sg107 _ (pubF_len _ _ _) d256 d257 d258 d259 h32111 h32114 h32117 (hG.ext (((((((((((((((Ext.refl w).trans hx5).trans hx15).trans hx29).trans hx44).trans hx60).trans hx73).grownN hg80 (by omega)).trans hx110).trans hx135).grownN hg142 (by omega)).trans hx180).trans hx210).trans hx225).trans hx234))) ?_)
            rintro _ w260 ⟨rfl, hx261⟩
            refine ⟨_, rfl, ?_⟩; intro a262 F263; clear F255; have z264 := hx261.size
            refine qv 6 (.bool (verifyF (pubF sd many used) many other sg107)) F263 rfl (rn_assign (F263.get rfl)) fun _ F266 => ?_; clear F263
            refine wpList_nil ?_
            refine hK244 _ _ ?_
            clear hK244
            have F267 := ((((((((((((((F266.nil.c F266 54 rfl).c F266 42 rfl).c F266 12 rfl).c F266 11 rfl).c F266 10 rfl).c F266 9 rfl).c F266 24 rfl).c F266 14 rfl).c F266 8 rfl).c F266 4 rfl).c F266 3 rfl).c F266 2 rfl).c F266 1 rfl).c F266 0 rfl)
            clear F266
            refine wp_ret ?_
            refine ret1 F267 rfl rfl ?_
            exact ⟨congrArg (fun b => Ending.returned (.bool b)) (((by have hb := of_decide_eq_true (decide_eq_true hc243); rw [hsg108] at hb ⊢; exact verifies (by have hq := of_decide_eq_false (decide_eq_false hc173); omega) (by omega) hb) : verifyF (pubF sd many used) many other sg107 = true) : verifyF (pubF sd many used) many other sg107 = true), ((((((((((((((((Ext.refl w).trans hx5).trans hx15).trans hx29).trans hx44).trans hx60).trans hx73).grownN hg80 (by omega)).trans hx110).trans hx135).grownN hg142 (by omega)).trans hx180).trans hx210).trans hx225).trans hx234).trans hx261)⟩
          · skip
            refine wp_cond_true (c_true F242 rfl (not_f (decide_eq_false hc243))) ?_
            refine wp_seq_k (fun K268 hK268 => ?_)
            refine wp_region_lit ?_
            refine qv 0 (.bool true) F242 rfl (rn_assign rfl) fun _ F270 => ?_; clear F242
            refine wpList_nil ?_
            refine hK268 _ _ ?_
            clear hK268
            refine wp_ret ?_
            refine ret_then ?_
            refine ret1 F270 rfl rfl ?_
            exact ⟨congrArg (fun b => Ending.returned (.bool b)) (rfl : true = true), (((((((((((((((Ext.refl w).trans hx5).trans hx15).trans hx29).trans hx44).trans hx60).trans hx73).grownN hg80 (by omega)).trans hx110).trans hx135).grownN hg142 (by omega)).trans hx180).trans hx210).trans hx225).trans hx234)⟩
    · skip
      refine wp_cond_true (c_true F52 rfl (not_f (decide_eq_false hc53))) ?_
      refine wp_seq_k (fun K271 hK271 => ?_)
      refine wp_region_lit ?_
      refine qv 0 (.bool true) F52 rfl (rn_assign rfl) fun _ F273 => ?_; clear F52
      refine wpList_nil ?_
      refine hK271 _ _ ?_
      clear hK271
      refine wp_ret ?_
      refine ret_then ?_
      refine ret1 F273 rfl rfl ?_
      exact ⟨congrArg (fun b => Ending.returned (.bool b)) (rfl : true = true), (((((Ext.refl w).trans hx5).trans hx15).trans hx29).trans hx44)⟩
  · skip
    refine qu 5 F36 (not_f (decide_eq_false hc37)) fun _ F275 => ?_; clear F36
    refine qu 6 F275 (not_f (decide_eq_false hc37)) fun _ F277 => ?_; clear F275
    refine qu 7 F277 (not_f (decide_eq_false hc37)) fun _ F279 => ?_; clear F277
    refine qu 8 F279 (not_f (decide_eq_false hc37)) fun _ F281 => ?_; clear F279
    refine qv 9 (.bool true) F281 rfl (rn_pickT (c_true F281 rfl (not_f (decide_eq_false hc37))) rfl) fun _ F283 => ?_; clear F281
    refine wpList_nil ?_
    refine hK22 _ _ ?_
    clear hK22
    have F284 := ((((((((F283.nil.c F283 24 rfl).c F283 14 rfl).c F283 8 rfl).c F283 4 rfl).c F283 3 rfl).c F283 2 rfl).c F283 1 rfl).c F283 0 rfl)
    clear F283
    refine wp_cond_true (c_true F284 rfl rfl) ?_
    refine wp_seq_k (fun K285 hK285 => ?_)
    refine wp_region_lit ?_
    refine qv 0 (.bool true) F284 rfl (rn_assign rfl) fun _ F287 => ?_; clear F284
    refine wpList_nil ?_
    refine hK285 _ _ ?_
    clear hK285
    refine wp_ret ?_
    refine ret_then ?_
    refine ret1 F287 rfl rfl ?_
    exact ⟨congrArg (fun b => Ending.returned (.bool b)) (rfl : true = true), ((((Ext.refl w).trans hx5).trans hx15).trans hx29)⟩

end Go.Proofs.YtmjgjopbeokajaaDoor

namespace Go.Proofs.YtmjgjopbeokajaaDoor
open Go.RowKit

theorem unwanted_undef {ops : Array Oper} {o : Oper} {N : Nat} {m : List (Nat × Value)} {a : Act} {j dj : Nat} {b : Bool} {oj : Oper} (hg : o.guard = some (j, b)) (hj : ops[j]? = some oj) (hd : oj.dst = some dj) (hF : Sl N m a) (hv : look m dj = some undef) : Region.wanted o (yielded ops a.tmps) = false := by
  have h := hF.get hv
  simp only [Act.eval, Array.getD_eq_getD_getElem?] at h
  have h2 : yielded ops a.tmps j = none := by
    cases hc : a.tmps[dj]? with
    | none => simp [yielded, hj, hd, hc]
    | some u =>
      rw [hc] at h
      have h : u = undef := h
      subst h
      simp [yielded, hj, hd, hc, undef]
  simp [Region.wanted, hg, h2]

end Go.Proofs.YtmjgjopbeokajaaDoor
