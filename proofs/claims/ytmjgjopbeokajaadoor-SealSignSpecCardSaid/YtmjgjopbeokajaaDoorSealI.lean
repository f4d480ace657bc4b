/- Contracts of Sign. -/
import Derived.Test.YtmjgjopbeokajaaDoorProg
import Derived.Test.YtmjgjopbeokajaaDoorBunI
import Derived.KernelRfl
import Derived.Test.YtmjgjopbeokajaaDoorBunA
import Derived.Test.YtmjgjopbeokajaaDoorBunB
namespace Go.Proofs.YtmjgjopbeokajaaDoor
open Go.RowKit

variable {S S' : Nat → Prop}

set_option maxRecDepth 100000 in
set_option maxHeartbeats 1000000 in
theorem sign_any (A : Option Addr) (c : Nat) (sd : List UInt8) (many used idx : Int) (B : Option Addr) (cb : Nat) (msg : List UInt8) (w : World) (hf : Fl S w 1 (.slice A sd.length c) sd.length (byteVals sd)) (hm : Fl S w 1 (.slice B msg.length cb) msg.length (byteVals msg)) (hG : Glob w) :
    Calls Tryd.prog 14 #[.agg #[.slice A sd.length c, .int .i64 many, .int .i64 used], .int .i64 idx, .slice B msg.length cb] w (fun e w' => ∃ A1 n1 c1 A2 n2 c2 A3 n3 c3, e = .returned (.tuple #[.agg #[.int .i64 (signF sd many used idx msg).index, .slice A1 n1 c1, .slice A2 n2 c2, .slice A3 n3 c3], .int .i64 (signE sd many used idx msg)]) ∧ Fl (fun b => w.heap.size ≤ b) w' 32 (.slice A1 n1 c1) n1 (digVals (signF sd many used idx msg).op) ∧ Fl (fun b => w.heap.size ≤ b) w' 32 (.slice A2 n2 c2) n2 (digVals (signF sd many used idx msg).cl) ∧ Fl (fun b => w.heap.size ≤ b) w' 32 (.slice A3 n3 c3) n3 (digVals (signF sd many used idx msg).path) ∧ Ext w w') := by
  have hc : Fl (Clip S w) w 1 (.slice A sd.length c) sd.length (byteVals sd) := hf.clip
  have hcc := (Fl.cel hc).2.1
  have hb : Fl (Clip S w) w 1 (.slice B msg.length cb) msg.length (byteVals msg) := hm.clip
  have hbc := (Fl.cel hb).2.1
  refine calls_enter (l := [(.agg #[(.slice A sd.length c), (.int .i64 many), (.int .i64 used)]), (.int .i64 idx), (.slice B msg.length cb)]) Tryd.func14 rfl rfl rfl (fun aA hF => ?_)
  refine wp_seq_k (fun K1 hK1 => ?_)
  refine wp_region_lit ?_
  refine wpl_op (i := 0) rfl (o_new (fun g => (.pointer (some ⟨g, 0, none⟩))) [(.slice A sd.length c), (.int .i64 many), (.int .i64 used)] 24 hF rfl rfl rfl rfl (rn_box (hF.get rfl) (by kernel_rfl)) ?_)
  intro g2 w3 a8 F9 z6 z7 b4 hx5; clear hF
  refine wpl_op (i := 1) rfl (o_new (fun g => (.pointer (some ⟨g, 0, none⟩))) [(.int .i64 0), (.slice none 0 0), (.slice none 0 0), (.slice none 0 0)] 30 F9 rfl rfl rfl rfl (by kernel_rfl) ?_)
  intro g10 w11 a16 F17 z14 z15 b12 hx13; clear F9
  refine qv 2 (.int .i64 0) F17 rfl (rn_assign rfl) fun _ F19 => ?_; clear F17
  refine wpList_nil ?_
  refine hK1 _ _ ?_
  clear hK1
  refine wp_seq_k (fun K20 hK20 => ?_)
  refine wp_block ?_
  refine wp_seq_k (fun K21 hK21 => ?_)
  refine wp_region_lit ?_
  have b22 := (b4.ext hx13)
  refine qv 0 (.agg #[(.slice A sd.length c), (.int .i64 many), (.int .i64 used)]) F19 rfl (rn_loadBlk (F19.get rfl) b22 Tryd.underlying24 rfl inf24) fun _ F24 => ?_; clear F19
  have d25 := ((hc.ext hx5).ext hx13)
  refine wpl_op (i := 1) rfl (o_call F24 rfl rfl rfl rfl (rn_call (args1 (F24.get rfl)) rfl (by kernel_rfl)) (valid_at (v := (.slice A sd.length c)) (m := sd.length) sd many used _ d25) ?_)
  rintro _ w26 ⟨rfl, hx27⟩
  refine ⟨_, rfl, ?_⟩; intro a28 F29; clear F24; have z30 := hx27.size
  refine qv 2 (.bool (!(kOk sd many used))) F29 rfl (rn_not' (F29.get rfl) rfl) fun _ F32 => ?_; clear F29
  refine qv 3 (.bool (!(kOk sd many used))) F32 rfl (rn_assign (F32.get rfl)) fun _ F34 => ?_; clear F32
  refine wpList_nil ?_
  refine hK21 _ _ ?_
  clear hK21
  rcases Bool.eq_false_or_eq_true (kOk sd many used) with hc35 | hc35
  · skip
    refine wp_cond_false (c_false F34 rfl (not_t hc35)) ?_
    refine wp_seq_k (fun K36 hK36 => ?_)
    refine wp_region_lit ?_
    refine qv 0 (.slice B msg.length cb) F34 rfl (rn_move (F34.get rfl)) fun _ F38 => ?_; clear F34
    refine qv 1 (.int .i64 (msg.length : Nat)) F38 rfl (rn_len_slice Tryd.underlying22 (F38.get rfl)) fun _ F40 => ?_; clear F38
    refine qv 2 (.bool (decide ((65536 : Int) < ((msg.length : Nat) : Int)))) F40 rfl (rn_gtr (F40.get rfl) rfl) fun _ F42 => ?_; clear F40
    refine qv 3 (.bool (decide ((65536 : Int) < ((msg.length : Nat) : Int)))) F42 rfl (rn_assign (F42.get rfl)) fun _ F44 => ?_; clear F42
    refine wpList_nil ?_
    refine hK36 _ _ ?_
    clear hK36
    have F45 := ((((((((F44.nil.c F44 17 rfl).c F44 12 rfl).c F44 7 rfl).c F44 6 rfl).c F44 3 rfl).c F44 2 rfl).c F44 1 rfl).c F44 0 rfl)
    clear F44
    by_cases hc46 : (65536 : Int) < ((msg.length : Nat) : Int)
    · skip
      refine wp_cond_true (c_true F45 rfl (decide_eq_true hc46)) ?_
      refine wp_seq_k (fun K47 hK47 => ?_)
      refine wp_region_lit ?_
      have b48 := (b12.ext hx27)
      refine qv 0 (.agg #[(.int .i64 0), (.slice none 0 0), (.slice none 0 0), (.slice none 0 0)]) F45 rfl (rn_loadBlk (F45.get rfl) b48 Tryd.underlying30 rfl inf30) fun _ F50 => ?_; clear F45
      refine wpl_op (i := 1) rfl (o_store (cells := [(.int .i64 0), (.slice none 0 0), (.slice none 0 0), (.slice none 0 0)]) F50 rfl rfl rfl rfl (F50.get rfl) (F50.get rfl) b48 inf30 rfl (by simp [Value.oneCell']) ?_)
      intro w51 b52 hg53; have z54 := hg53.size
      refine qv 2 (.int .i64 2) F50 rfl (rn_assign rfl) fun _ F56 => ?_; clear F50
      refine wpList_nil ?_
      refine hK47 _ _ ?_
      clear hK47
      refine wp_ret ?_
      refine ret_block ?_
      refine ret_then ?_
      refine retC1 F56 rfl rfl rfl b52 Tryd.underlying30 rfl inf30 ?_
      have he : signE sd many used idx msg = 2 := signE2 hc35 (by omega)
      have hn := signF_no he (by decide)
      exact ⟨none, 0, 0, none, 0, 0, none, 0, 0, by rw [he, hn]; rfl, by rw [hn]; exact Fl.nil _, by rw [hn]; exact Fl.nil _, by rw [hn]; exact Fl.nil _, (((((Ext.refl w).trans hx5).trans hx13).trans hx27).grownN hg53 (by omega))⟩
    · skip
      refine wp_cond_false (c_false F45 rfl (decide_eq_false hc46)) ?_
      refine wp_seq_k (fun K57 hK57 => ?_)
      refine wp_region_lit ?_
      refine qv 0 (.int .i64 idx) F45 rfl (rn_move (F45.get rfl)) fun _ F59 => ?_; clear F45
      refine qv 1 (.bool (decide ((idx : Int) < (0 : Int)))) F59 rfl (rn_lss (F59.get rfl) rfl) fun _ F61 => ?_; clear F59
      refine qv 2 (.bool (decide ((idx : Int) < (0 : Int)))) F61 rfl (rn_move (F61.get rfl)) fun _ F63 => ?_; clear F61
      by_cases hc64 : (idx : Int) < (0 : Int)
      · skip
        refine qu 3 F63 (decide_eq_true hc64) fun _ F66 => ?_; clear F63
        refine qu 4 F66 (decide_eq_true hc64) fun _ F68 => ?_; clear F66
        refine qu 5 F68 (decide_eq_true hc64) fun _ F70 => ?_; clear F68
        refine qu 6 F70 (decide_eq_true hc64) fun _ F72 => ?_; clear F70
        refine qv 7 (.bool true) F72 rfl (rn_pickT (c_true F72 rfl (decide_eq_true hc64)) rfl) fun _ F74 => ?_; clear F72
        refine qv 8 (.bool true) F74 rfl (rn_assign (F74.get rfl)) fun _ F76 => ?_; clear F74
        refine wpList_nil ?_
        refine hK57 _ _ ?_
        clear hK57
        have F77 := (((((((((F76.nil.c F76 22 rfl).c F76 17 rfl).c F76 12 rfl).c F76 7 rfl).c F76 6 rfl).c F76 3 rfl).c F76 2 rfl).c F76 1 rfl).c F76 0 rfl)
        clear F76
        refine wp_cond_true (c_true F77 rfl rfl) ?_
        refine wp_seq_k (fun K78 hK78 => ?_)
        refine wp_region_lit ?_
        have b79 := (b12.ext hx27)
        refine qv 0 (.agg #[(.int .i64 0), (.slice none 0 0), (.slice none 0 0), (.slice none 0 0)]) F77 rfl (rn_loadBlk (F77.get rfl) b79 Tryd.underlying30 rfl inf30) fun _ F81 => ?_; clear F77
        refine wpl_op (i := 1) rfl (o_store (cells := [(.int .i64 0), (.slice none 0 0), (.slice none 0 0), (.slice none 0 0)]) F81 rfl rfl rfl rfl (F81.get rfl) (F81.get rfl) b79 inf30 rfl (by simp [Value.oneCell']) ?_)
        intro w82 b83 hg84; have z85 := hg84.size
        refine qv 2 (.int .i64 40) F81 rfl (rn_assign rfl) fun _ F87 => ?_; clear F81
        refine wpList_nil ?_
        refine hK78 _ _ ?_
        clear hK78
        refine wp_ret ?_
        refine ret_block ?_
        refine ret_then ?_
        refine retC1 F87 rfl rfl rfl b83 Tryd.underlying30 rfl inf30 ?_
        have he : signE sd many used idx msg = 40 := signE3 hc35 (by omega) (by omega)
        have hn := signF_no he (by decide)
        exact ⟨none, 0, 0, none, 0, 0, none, 0, 0, by rw [he, hn]; rfl, by rw [hn]; exact Fl.nil _, by rw [hn]; exact Fl.nil _, by rw [hn]; exact Fl.nil _, (((((Ext.refl w).trans hx5).trans hx13).trans hx27).grownN hg84 (by omega))⟩
      · skip
        refine qg 3 (.int .i64 idx) F63 (decide_eq_false hc64) (rn_move (F63.get rfl)) fun _ F89 => ?_; clear F63
        refine qg 4 (.pointer (some ⟨g2, 1, none⟩)) F89 (decide_eq_false hc64) (rn_field Tryd.underlying24 rfl (by kernel_rfl) (F89.get rfl) rfl) fun _ F91 => ?_; clear F89
        have b92 := (b22.ext hx27)
        refine qg 5 (.int .i64 many) F91 (decide_eq_false hc64) (rn_load (isAgg_no Tryd.underlying3 rfl) (F91.get rfl) (b92.rule.1 1)) fun _ F94 => ?_; clear F91
        refine qg 6 (.bool (decide ((many : Int) ≤ (idx : Int)))) F94 (decide_eq_false hc64) (rn_geq (F94.get rfl) (F94.get rfl)) fun _ F96 => ?_; clear F94
        refine qv 7 (.bool (decide ((many : Int) ≤ (idx : Int)))) F96 rfl (rn_pickF (c_false F96 rfl (decide_eq_false hc64)) (F96.get rfl)) fun _ F98 => ?_; clear F96
        refine qv 8 (.bool (decide ((many : Int) ≤ (idx : Int)))) F98 rfl (rn_assign (F98.get rfl)) fun _ F100 => ?_; clear F98
        refine wpList_nil ?_
        refine hK57 _ _ ?_
        clear hK57
        have F101 := (((((((((F100.nil.c F100 22 rfl).c F100 17 rfl).c F100 12 rfl).c F100 7 rfl).c F100 6 rfl).c F100 3 rfl).c F100 2 rfl).c F100 1 rfl).c F100 0 rfl)
        clear F100
        by_cases hc102 : (many : Int) ≤ (idx : Int)
        · skip
          refine wp_cond_true (c_true F101 rfl (decide_eq_true hc102)) ?_
          refine wp_seq_k (fun K103 hK103 => ?_)
          refine wp_region_lit ?_
          have b104 := (b12.ext hx27)
          refine qv 0 (.agg #[(.int .i64 0), (.slice none 0 0), (.slice none 0 0), (.slice none 0 0)]) F101 rfl (rn_loadBlk (F101.get rfl) b104 Tryd.underlying30 rfl inf30) fun _ F106 => ?_; clear F101
          refine wpl_op (i := 1) rfl (o_store (cells := [(.int .i64 0), (.slice none 0 0), (.slice none 0 0), (.slice none 0 0)]) F106 rfl rfl rfl rfl (F106.get rfl) (F106.get rfl) b104 inf30 rfl (by simp [Value.oneCell']) ?_)
          intro w107 b108 hg109; have z110 := hg109.size
          refine qv 2 (.int .i64 40) F106 rfl (rn_assign rfl) fun _ F112 => ?_; clear F106
          refine wpList_nil ?_
          refine hK103 _ _ ?_
          clear hK103
          refine wp_ret ?_
          refine ret_block ?_
          refine ret_then ?_
          refine retC1 F112 rfl rfl rfl b108 Tryd.underlying30 rfl inf30 ?_
          have he : signE sd many used idx msg = 40 := signE3 hc35 (by omega) (by omega)
          have hn := signF_no he (by decide)
          exact ⟨none, 0, 0, none, 0, 0, none, 0, 0, by rw [he, hn]; rfl, by rw [hn]; exact Fl.nil _, by rw [hn]; exact Fl.nil _, by rw [hn]; exact Fl.nil _, (((((Ext.refl w).trans hx5).trans hx13).trans hx27).grownN hg109 (by omega))⟩
        · skip
          refine wp_cond_false (c_false F101 rfl (decide_eq_false hc102)) ?_
          refine wp_skip ?_
          refine hK20 _ _ ?_
          clear hK20
          refine wp_seq_k (fun K113 hK113 => ?_)
          have hko114 := kOk_iff.1 hc35
          refine wp_region_lit ?_
          refine qv 0 (.agg #[(.slice A sd.length c), (.int .i64 many), (.int .i64 used)]) F101 rfl (rn_loadBlk (F101.get rfl) b92 Tryd.underlying24 rfl inf24) fun _ F116 => ?_; clear F101
          have d117 := (((hc.ext hx5).ext hx13).ext hx27)
          refine wpl_op (i := 1) rfl (o_call F116 rfl rfl rfl rfl (rn_call (args1 (F116.get rfl)) rfl (by kernel_rfl)) (publics_int (v := (.slice A sd.length c)) (m := sd.length) sd many used _ d117 (hG.ext ((((Ext.refl w).trans hx5).trans hx13).trans hx27)) (by omega) (by omega) (by omega)) ?_)
          rintro _ w122 ⟨A118, c119, rfl, hf120, hx123⟩
          have z121 := (Fl.cel hf120).2.1
          refine ⟨_, rfl, ?_⟩; intro a124 F125; clear F116; have z126 := hx123.size
          have hf127 : Fl (Clip (fun b => w26.heap.size ≤ b) w122) w122 32 (.slice A118 ((many : Int).toNat) c119) ((many : Int).toNat) (digVals (pubsL sd ((many : Int).toNat))) := hf120.clip
          refine qv 2 (.slice A118 ((many : Int).toNat) c119) F125 rfl (rn_assign (F125.get rfl)) fun _ F129 => ?_; clear F125
          refine wpList_nil ?_
          refine hK113 _ _ ?_
          clear hK113
          refine wp_seq_k (fun K130 hK130 => ?_)
          refine wp_region_lit ?_
          refine qv 0 (.int .i64 idx) F129 rfl (rn_move (F129.get rfl)) fun _ F132 => ?_; clear F129
          refine qv 1 (.pointer (some ⟨g10, 0, none⟩)) F132 rfl (rn_field Tryd.underlying30 rfl (by kernel_rfl) (F132.get rfl) rfl) fun _ F134 => ?_; clear F132
          have b138 := ((b12.ext hx27).ext hx123)
          refine wpl_op (i := 2) rfl (o_store1 (new := [(.int .i64 idx), (.slice none 0 0), (.slice none 0 0), (.slice none 0 0)]) F134 rfl rfl rfl rfl (F134.get rfl) (F134.get rfl) b138 inf3 (by simp) rfl rfl ?_)
          intro w135 b136 hg137; have z139 := hg137.size
          refine wpList_nil ?_
          refine hK130 _ _ ?_
          clear hK130
          have F140 := ((((((((((F134.nil.c F134 8 rfl).c F134 22 rfl).c F134 17 rfl).c F134 12 rfl).c F134 7 rfl).c F134 6 rfl).c F134 3 rfl).c F134 2 rfl).c F134 1 rfl).c F134 0 rfl)
          clear F134
          refine wp_seq_k (fun K141 hK141 => ?_)
          refine wp_region_lit ?_
          refine qv 0 (.slice A118 ((many : Int).toNat) c119) F140 rfl (rn_move (F140.get rfl)) fun _ F143 => ?_; clear F140
          refine qv 1 (.int .i64 idx) F143 rfl (rn_move (F143.get rfl)) fun _ F145 => ?_; clear F143
          have d146 := (hf127.pres ((Pres.refl w122).grownN hg137 (fun h => by simp only [Clip] at h; omega)))
          refine wpl_op (i := 2) rfl (o_call F145 rfl rfl rfl rfl (rn_call (args2 (F145.get rfl) (F145.get rfl)) rfl (by kernel_rfl)) (path_at (pubsL sd ((many : Int).toNat)) idx _ (v := (.slice A118 ((many : Int).toNat) c119)) (n := (many : Int).toNat) (pubsL_32 _ _) d146 (hG.ext ((((((Ext.refl w).trans hx5).trans hx13).trans hx27).trans hx123).grownN hg137 (by omega))) (by omega)) ?_)
          rintro _ w154 ⟨A147, n148, c149, rfl, hf150, h32151, hx155⟩
          have z152 := (Fl.cel hf150).2.1
          have z153 := Fl.dlen hf150 h32151
          refine ⟨_, rfl, ?_⟩; intro a156 F157; clear F145; have z158 := hx155.size
          have hf159 : Fl (Clip (fun b => w135.heap.size ≤ b) w154) w154 32 (.slice A147 n148 c149) n148 (digVals ((pathF (pubsL sd ((many : Int).toNat)) idx).1)) := hf150.clip
          refine qv 3 (.tuple #[(.slice A147 n148 c149), (.int .i64 ((pathF (pubsL sd ((many : Int).toNat)) idx).2))]) F157 rfl (rn_move (F157.get rfl)) fun _ F161 => ?_; clear F157
          refine qv 4 (.slice A147 n148 c149) F161 rfl (rn_extract (F161.get rfl) rfl) fun _ F163 => ?_; clear F161
          refine qv 5 (.int .i64 ((pathF (pubsL sd ((many : Int).toNat)) idx).2)) F163 rfl (rn_extract (F163.get rfl) rfl) fun _ F165 => ?_; clear F163
          refine qv 6 (.pointer (some ⟨g10, 3, none⟩)) F165 rfl (rn_field Tryd.underlying30 rfl (by kernel_rfl) (F165.get rfl) rfl) fun _ F167 => ?_; clear F165
          have b171 := (b136.ext hx155)
          refine wpl_op (i := 7) rfl (o_store1 (new := [(.int .i64 idx), (.slice none 0 0), (.slice none 0 0), (.slice A147 n148 c149)]) F167 rfl rfl rfl rfl (F167.get rfl) (F167.get rfl) b171 inf28 (by simp) rfl rfl ?_)
          intro w168 b169 hg170; have z172 := hg170.size
          refine wpList_nil ?_
          refine hK141 _ _ ?_
          clear hK141
          have F173 := ((((((((((F167.nil.c F167 8 rfl).c F167 22 rfl).c F167 17 rfl).c F167 12 rfl).c F167 7 rfl).c F167 6 rfl).c F167 3 rfl).c F167 2 rfl).c F167 1 rfl).c F167 0 rfl)
          clear F167
          refine wp_seq_k (fun K174 hK174 => ?_)
          refine wp_region_lit ?_
          refine qv 0 (.pointer (some ⟨g2, 0, none⟩)) F173 rfl (rn_field Tryd.underlying24 rfl (by kernel_rfl) (F173.get rfl) rfl) fun _ F176 => ?_; clear F173
          have b177 := ((((b92.ext hx123).grownN hg137 (by omega)).ext hx155).grownN hg170 (by omega))
          refine qv 1 (.slice A sd.length c) F176 rfl (rn_load (isAgg_no Tryd.underlying22 rfl) (F176.get rfl) (b177.rule.1 0)) fun _ F179 => ?_; clear F176
          refine qv 2 (.int .i64 idx) F179 rfl (rn_move (F179.get rfl)) fun _ F181 => ?_; clear F179
          refine qv 3 (.agg #[(.slice A sd.length c), (.int .i64 idx)]) F181 rfl (rn_build (parts2 (F181.get rfl) (F181.get rfl)) (by kernel_rfl)) fun _ F183 => ?_; clear F181
          refine wpl_op (i := 4) rfl (o_new (fun g => (.pointer (some ⟨g, 0, none⟩))) [(.slice none 0 0), (.int .i64 0)] 58 F183 rfl rfl rfl rfl (by kernel_rfl) ?_)
          intro g184 w185 a190 F191 z188 z189 b186 hx187; clear F183
          refine wpl_op (i := 5) rfl (o_store (cells := [(.slice A sd.length c), (.int .i64 idx)]) F191 rfl rfl rfl rfl (F191.get rfl) (F191.get rfl) b186 inf58 rfl (by simp [Value.oneCell']) ?_)
          intro w192 b193 hg194; have z195 := hg194.size
          refine wpList_nil ?_
          refine hK174 _ _ ?_
          clear hK174
          have F196 := (((((((((((F191.nil.c F191 9 rfl).c F191 8 rfl).c F191 22 rfl).c F191 17 rfl).c F191 12 rfl).c F191 7 rfl).c F191 6 rfl).c F191 3 rfl).c F191 2 rfl).c F191 1 rfl).c F191 0 rfl)
          clear F191
          refine wp_seq_k (fun K197 hK197 => ?_)
          refine wp_seq_k (fun K198 hK198 => ?_)
          refine wp_region_lit ?_
          refine qv 0 (.slice A118 ((many : Int).toNat) c119) F196 rfl (rn_move (F196.get rfl)) fun _ F200 => ?_; clear F196
          have d201 := (hf127.pres ((((((Pres.refl w122).grownN hg137 (fun h => by simp only [Clip] at h; omega)).ext hx155).grownN hg170 (fun h => by simp only [Clip] at h; omega)).ext hx187).grownN hg194 (fun h => by simp only [Clip] at h; omega)))
          have hf202 := d201
          refine wpl_op (i := 1) rfl (o_call F200 rfl rfl rfl rfl (rn_call (args1 (F200.get rfl)) rfl (by kernel_rfl)) (tree_at (pubsL sd ((many : Int).toNat)) _ (n := (many : Int).toNat) (v := (.slice A118 ((many : Int).toNat) c119)) (pubsL_32 _ _) hf202 (hG.ext ((((((((((Ext.refl w).trans hx5).trans hx13).trans hx27).trans hx123).grownN hg137 (by omega)).trans hx155).grownN hg170 (by omega)).trans hx187).grownN hg194 (by omega)))) ?_)
          rintro _ w203 ⟨rfl, hx204⟩
          refine ⟨_, rfl, ?_⟩; intro a205 F206; clear F200; have z207 := hx204.size
          refine qv 2 (.int .i64 idx) F206 rfl (rn_move (F206.get rfl)) fun _ F209 => ?_; clear F206
          refine qv 3 (.slice B msg.length cb) F209 rfl (rn_move (F209.get rfl)) fun _ F211 => ?_; clear F209
          have d212 := (hb.pres (((((((((((Pres.refl w).ext hx5).ext hx13).ext hx27).ext hx123).grownN hg137 (fun h => by simp only [Clip] at h; omega)).ext hx155).grownN hg170 (fun h => by simp only [Clip] at h; omega)).ext hx187).grownN hg194 (fun h => by simp only [Clip] at h; omega)).ext hx204))
          have hi213 : (((idx : Int).toNat : Nat) : Int) = idx := by omega
          refine wpl_op (i := 4) rfl (o_call F211 rfl rfl rfl rfl (rn_call (args3 (F211.get rfl) (F211.get rfl) (F211.get rfl)) rfl (by kernel_rfl)) (signed_int (v := (.slice B msg.length cb)) (m := msg.length) (treeD (pubsL sd ((many : Int).toNat))) idx msg _ (treeD_len _) d212 (hG.ext (((((((((((Ext.refl w).trans hx5).trans hx13).trans hx27).trans hx123).grownN hg137 (by omega)).trans hx155).grownN hg170 (by omega)).trans hx187).grownN hg194 (by omega)).trans hx204)) (by omega) (by omega) (by omega)) ?_)
          rintro _ w214 ⟨rfl, hx215⟩
          refine ⟨_, rfl, ?_⟩; intro a216 F217; clear F211; have z218 := hx215.size
          refine qv 5 (.int .i64 0) F217 rfl (rn_move rfl) fun _ F220 => ?_; clear F217
          refine wpList_nil ?_
          refine hK198 _ _ ?_
          clear hK198
          have F221 := (((((((((((((F220.nil.c F220 52 rfl).c F220 51 rfl).c F220 9 rfl).c F220 8 rfl).c F220 22 rfl).c F220 17 rfl).c F220 12 rfl).c F220 7 rfl).c F220 6 rfl).c F220 3 rfl).c F220 2 rfl).c F220 1 rfl).c F220 0 rfl)
          clear F220
          refine wp_block ?_
          have d222 := (hf127.pres ((((((((Pres.refl w122).grownN hg137 (fun h => by simp only [Clip] at h; omega)).ext hx155).grownN hg170 (fun h => by simp only [Clip] at h; omega)).ext hx187).grownN hg194 (fun h => by simp only [Clip] at h; omega)).ext hx204).ext hx215))
          have d223 := (hf159.pres ((((((Pres.refl w154).grownN hg170 (fun h => by simp only [Clip] at h; omega)).ext hx187).grownN hg194 (fun h => by simp only [Clip] at h; omega)).ext hx204).ext hx215))
          have b224 := ((((b177.ext hx187).grownN hg194 (by omega)).ext hx204).ext hx215)
          have b225 := ((((b169.ext hx187).grownN hg194 (by omega)).ext hx204).ext hx215)
          have b226 := ((b193.ext hx204).ext hx215)
          refine wp_loop (fun a' W => ∃ (k : Nat) (Ao : Option Addr) (no : Nat) (co : Nat) (lo : List (List UInt8)) (Ac : Option Addr) (nc : Nat) (cc : Nat) (lc : List (List UInt8)), Sl 77 [(0, (.agg #[(.slice A sd.length c), (.int .i64 many), (.int .i64 used)])), (1, (.int .i64 idx)), (2, (.slice B msg.length cb)), (3, (.pointer (some ⟨g2, 0, none⟩))), (6, (.pointer (some ⟨g10, 0, none⟩))), (7, (.int .i64 0)), (12, (.bool (!(kOk sd many used)))), (17, (.bool (decide ((65536 : Int) < ((msg.length : Nat) : Int))))), (22, (.bool (decide ((many : Int) ≤ (idx : Int))))), (8, (.slice A118 ((many : Int).toNat) c119)), (9, (.pointer (some ⟨g184, 0, none⟩))), (51, (.agg (boolVals (bitsL (treeD (pubsL sd ((many : Int).toNat))) ((idx : Int).toNat) msg)).toArray)), (52, (.int .i64 (k : Nat)))] a' ∧ (k ≤ 64 ∧ no = k ∧ nc = k) ∧ lo = opTo sd (idx : Int).toNat (bitsL (treeD (pubsL sd ((many : Int).toNat))) (idx : Int).toNat msg) k ∧ lc = clTo sd (idx : Int).toNat (bitsL (treeD (pubsL sd ((many : Int).toNat))) (idx : Int).toNat msg) k ∧ Ext w W ∧ Blk W g2 24 [(.slice A sd.length c), (.int .i64 many), (.int .i64 used)] ∧ Blk W g10 30 [(.int .i64 idx), (.slice Ao no co), (.slice Ac nc cc), (.slice A147 n148 c149)] ∧ Blk W g184 58 [(.slice A sd.length c), (.int .i64 idx)] ∧ W.ownsRow w214.heap.size 37 32 (.slice Ao no co) no (digVals lo) ∧ W.ownsRow w214.heap.size 37 32 (.slice Ac nc cc) nc (digVals lc) ∧ Fl (Clip (fun b => w26.heap.size ≤ b) w122) W 32 (.slice A118 ((many : Int).toNat) c119) ((many : Int).toNat) (digVals (pubsL sd ((many : Int).toNat))) ∧ Fl (Clip (fun b => w135.heap.size ≤ b) w154) W 32 (.slice A147 n148 c149) n148 (digVals ((pathF (pubsL sd ((many : Int).toNat)) idx).1)) ∧ Apart (.slice Ao no co) (.slice Ac nc cc) ∧ w214.heap.size ≤ W.heap.size ∧ w214.heap.size ≤ W.heap.size ∧ w214.heap.size ≤ W.heap.size) (fun a' _ => 64 - (intOf (a'.eval (.tmp 52))).toNat) ⟨0, none, 0, 0, [], none, 0, 0, [], (((((((((((((F221.nil.cons (q_get F221 (t := 52) rfl (by first | rfl | (congr 1; omega) | (congr 1; done)))).cons (q_get F221 (t := 51) rfl rfl)).cons (q_get F221 (t := 9) rfl rfl)).cons (q_get F221 (t := 8) rfl rfl)).cons (q_get F221 (t := 22) rfl rfl)).cons (q_get F221 (t := 17) rfl rfl)).cons (q_get F221 (t := 12) rfl rfl)).cons (q_get F221 (t := 7) rfl rfl)).cons (q_get F221 (t := 6) rfl rfl)).cons (q_get F221 (t := 3) rfl rfl)).cons (q_get F221 (t := 2) rfl rfl)).cons (q_get F221 (t := 1) rfl rfl)).cons (q_get F221 (t := 0) rfl rfl)), ⟨by omega, by omega, by omega⟩, rfl, rfl, ((((((((((((Ext.refl w).trans hx5).trans hx13).trans hx27).trans hx123).grownN hg137 (by omega)).trans hx155).grownN hg170 (by omega)).trans hx187).grownN hg194 (by omega)).trans hx204).trans hx215), b224, b225, b226, (own_nil w214 w214.heap.size 37 32), (own_nil w214 w214.heap.size 37 32), d222, d223, (Apart.symm (Apart.nil (.slice none 0 0) 0 0)), (by omega), (by omega), (Nat.le_refl _)⟩ ?_
          clear F221
          rintro a227 w228 ⟨k, Ao, no, co, lo, Ac, nc, cc, lc, F229, hp231, hp232, hp233, hx230, b234, b235, b236, r237, r238, hf239, hf240, hf241, hf242, hf243, hf244⟩
          have hL245 := F229
          have z246 := hx230.size
          have z247 := b234.lt
          have z248 := b235.lt
          have z249 := b236.lt
          have z250 := own_form0 r237
          have z251 := own_form0 r238
          have hlo32 : All32 lo := by rw [hp232]; exact opTo_32 _ _ _ _
          have hlc32 : All32 lc := by rw [hp233]; exact clTo_32 _ _ _ _
          refine wp_seq_k (fun K252 hK252 => ?_)
          refine wp_region_lit ?_
          refine qv 0 (.bool (decide (((k : Nat) : Int) < (64 : Int)))) F229 rfl (rn_lss (F229.get rfl) rfl) fun _ F254 => ?_; clear F229
          refine wpList_nil ?_
          refine hK252 _ _ ?_
          clear hK252
          refine wp_seq_k (fun K255 hK255 => ?_)
          by_cases hc256 : ((k : Nat) : Int) < (64 : Int)
          · skip
            refine wp_cond_true (c_true F254 rfl (decide_eq_true hc256)) ?_
            refine wp_skip ?_
            refine hK255 _ _ ?_
            clear hK255
            refine wp_seq_k (fun K257 hK257 => ?_)
            refine wp_block ?_
            refine wp_seq_k (fun K258 hK258 => ?_)
            refine wp_region_lit ?_
            refine qv 0 (.int .i64 (k : Nat)) F254 rfl (rn_move (F254.get rfl)) fun _ F260 => ?_; clear F254
            refine qv 1 (.bool ((bitsL (treeD (pubsL sd ((many : Int).toNat))) ((idx : Int).toNat) msg).getD k false)) F260 rfl (rn_indexA1 Tryd.underlying60 Tryd.underlying4 rfl inf4 (F260.get rfl) (F260.get rfl) (by omega : (0 : Int) ≤ (k : Nat)) (by omega : ((k : Nat) : Int) < ((64 : Nat) : Int)) (by rw [Int.toNat_natCast, List.getElem?_toArray]; exact boolVals_at (l := bitsL (treeD (pubsL sd ((many : Int).toNat))) ((idx : Int).toNat) msg) (i := k) (by have := (bitsL_len (treeD (pubsL sd ((many : Int).toNat))) ((idx : Int).toNat) msg); omega))) fun _ F262 => ?_; clear F260
            refine qv 2 (.int .i64 (k : Nat)) F262 rfl (rn_assign (F262.get rfl)) fun _ F264 => ?_; clear F262
            refine qv 3 (.bool ((bitsL (treeD (pubsL sd ((many : Int).toNat))) ((idx : Int).toNat) msg).getD k false)) F264 rfl (rn_assign (F264.get rfl)) fun _ F266 => ?_; clear F264
            refine wpList_nil ?_
            refine hK258 _ _ ?_
            clear hK258
            refine wp_seq_k (fun K267 hK267 => ?_)
            have hx269 : ∃ W, w228.drew = W ∧ Ext w228 W := ⟨_, rfl, (Ext.refl _).drew⟩
            obtain ⟨w268, e270, hx269⟩ := hx269
            have z271 := hx269.size
            refine any_start (fun W => Ext w268 W ∧ Blk W g10 30 [(.int .i64 idx), (.slice Ao no co), (.slice Ac nc cc), (.slice A147 n148 c149)] ∧ Blk W g184 58 [(.slice A sd.length c), (.int .i64 idx)]) (fun i => i == 7 || i == 9) 10 #[false, false, false, false, false, false, false, false, false, false] rfl rfl rfl ?_
            rw [e270]; clear e270
            refine qp 0 (.pointer (some ⟨g10, 1, none⟩)) F266 rfl rfl (fun W => (rn_field Tryd.underlying30 rfl (by kernel_rfl) (F266.get rfl) rfl)) fun _ F273 => ?_; clear F266
            have b275 := (b235.ext hx269)
            have b276 := (b236.ext hx269)
            have hS274 : Ext w268 w268 ∧ Blk w268 g10 30 [(.int .i64 idx), (.slice Ao no co), (.slice Ac nc cc), (.slice A147 n148 c149)] ∧ Blk w268 g184 58 [(.slice A sd.length c), (.int .i64 idx)] := ⟨(Ext.refl w268), b275, b276⟩
            refine qs 1 (.slice Ao no co) F273 rfl rfl hS274 (fun W hW => (rn_load (isAgg_no Tryd.underlying28 rfl) (F273.get rfl) (hW.2.1.rule.1 1))) fun _ F278 => ?_; clear F273
            refine anyt_val (i := 2) (v := (.agg #[(.slice A sd.length c), (.int .i64 idx)])) [5, 6, 7, 8, 9] F278 (fun j hj => by simp at hj; first | (subst hj; decide) | (rcases hj with rfl | rfl <;> decide)) (by decide +kernel) (by decide +kernel) rfl rfl rfl rfl (fun _ _ _ _ h => h) rfl hS274 (fun W hW => (rn_loadBlk (F278.get rfl) hW.2.2 Tryd.underlying58 rfl inf58)) ?_
            intro a279 F280; clear F278
            refine qp 3 (.int .i64 (k : Nat)) F280 rfl rfl (fun W => (rn_move (F280.get rfl))) fun _ F282 => ?_; clear F280
            refine qp 4 (.bool ((bitsL (treeD (pubsL sd ((many : Int).toNat))) ((idx : Int).toNat) msg).getD k false)) F282 rfl rfl (fun W => (rn_move (F282.get rfl))) fun _ F284 => ?_; clear F282
            refine any_one (i := 5) (by decide +kernel) rfl ?_
            have d285 := ((hc.ext hx230).ext hx269)
            refine o_call F284 rfl rfl rfl rfl (rn_call (args3 (F284.get rfl) (F284.get rfl) (F284.get rfl)) rfl (by kernel_rfl)) (secret_int (v := (.slice A sd.length c)) (m := sd.length) sd idx k ((bitsL (treeD (pubsL sd ((many : Int).toNat))) ((idx : Int).toNat) msg).getD k false) _ d285 (hG.ext (((Ext.refl w).trans hx230).trans hx269)) (by omega) (by omega) (by omega) (by omega)) ?_
            rintro _ w286 ⟨rfl, hx287⟩
            refine ⟨_, rfl, ?_⟩; intro a288 F289; clear F284; have z290 := hx287.size
            have b291 := (b275.ext hx287)
            have b292 := (b276.ext hx287)
            refine ⟨fun _ _ => ⟨((Ext.refl w268).trans hx287), b291, b292⟩, ?_⟩
            refine any_one (i := 6) (by decide +kernel) rfl ?_
            have r293 := (own_ext (own_ext r237 hx269) hx287)
            have hf294 := r293
            have r295 := (own_ext (own_ext r238 hx269) hx287)
            have hf296 := r295
            refine o_new (fun g => (.slice (some ⟨g, 0, none⟩) 1 1)) (byteVals ((secretD sd (idx : Int).toNat k ((bitsL (treeD (pubsL sd ((many : Int).toNat))) ((idx : Int).toNat) msg).getD k false)))) 37 F289 rfl rfl rfl rfl (rn_buildSlice (parts1 (F289.get rfl)) (build_wholeE (vs := [(.agg (byteVals (secretD sd (idx : Int).toNat k ((bitsL (treeD (pubsL sd ((many : Int).toNat))) ((idx : Int).toNat) msg).getD k false))).toArray)]) El28 rfl rfl (fun v hv => by rw [List.mem_singleton.1 hv]; exact (byteVals_len (secretD_len _ _ _ _))) (by decide) (by decide) (by simp [Value.cells, byteVals]))) ?_
            intro g297 w298 a303 F304 z301 z302 b299 hx300; clear F289
            have nb305 := own_new (g := g297) hf294 (by omega)
            have nb306 := own_new (g := g297) hf296 (by omega)
            have b307 := (b291.ext hx300)
            have b308 := (b292.ext hx300)
            refine ⟨fun _ _ => ⟨(((Ext.refl w268).trans hx287).trans hx300), b307, b308⟩, ?_⟩
            refine any_one (i := 7) (by decide +kernel) rfl ?_
            have r309 := (own_ext r293 hx300)
            have hf318 := r309
            have nb319 : some g297 ≠ (Value.slice Ao no co).ownBlock := nb305
            have z320 := b299.lt
            have r321 := (own_ext r295 hx300)
            have hf322 := r321
            have ap323 : Apart (.slice Ac nc cc) (.slice Ao no co) := (Apart.symm hf241)
            refine o_appB (zs := digVals (lo ++ ([secretD sd (idx : Int).toNat k ((bitsL (treeD (pubsL sd ((many : Int).toNat))) ((idx : Int).toNat) msg).getD k false)]))) El28 F304 rfl rfl rfl rfl rfl (F304.get rfl) (F304.get rfl) hf318 (Fl.cel (Fl.digblk (S := fun b => b = g297) b299 (All32.sing (secretD_len _ _ _ _)) (by simp [digVals, byteVals]))).2.2 (by omega) (by omega) (by omega) (digVals_app _ _) ?_
            intro A310 c311 w312 a324 F325 r313 hg314 z315 z316 hnb317; clear F304; have z326 := hg314.size
            have nb327 := hnb317 g297 (by omega) nb319
            have ap328 := Apart.app hf322 ap323 hnb317
            refine ⟨fun h => absurd h (by decide), ?_⟩
            refine qp 8 (.pointer (some ⟨g10, 1, none⟩)) F325 rfl rfl (fun W => (rn_field Tryd.underlying30 rfl (by kernel_rfl) (F325.get rfl) rfl)) fun _ F330 => ?_; clear F325
            refine any_one (i := 9) (by decide +kernel) rfl ?_
            have b334 := (grown_blk hf318 hg314 b307 (by decide))
            refine o_store1 (new := [(.int .i64 idx), (.slice A310 (no + 1) c311), (.slice Ac nc cc), (.slice A147 n148 c149)]) F330 rfl rfl rfl rfl (F330.get rfl) (F330.get rfl) b334 inf28 (by simp) rfl rfl ?_
            intro w331 b332 hg333; have z335 := hg333.size
            refine ⟨fun h => absurd h (by decide), ?_⟩
            refine any_nil (by decide +kernel) ?_
            refine hK267 _ _ ?_
            clear hK267
            have F336 := ((((((((((((((((F330.nil.c F330 11 rfl).c F330 10 rfl).c F330 53 rfl).c F330 52 rfl).c F330 51 rfl).c F330 9 rfl).c F330 8 rfl).c F330 22 rfl).c F330 17 rfl).c F330 12 rfl).c F330 7 rfl).c F330 6 rfl).c F330 3 rfl).c F330 2 rfl).c F330 1 rfl).c F330 0 rfl)
            clear F330
            have hx338 : ∃ W, w331.drew = W ∧ Ext w331 W := ⟨_, rfl, (Ext.refl _).drew⟩
            obtain ⟨w337, e339, hx338⟩ := hx338
            have z340 := hx338.size
            refine any_start (fun W => Ext w337 W ∧ Blk W g10 30 [(.int .i64 idx), (.slice A310 (no + 1) c311), (.slice Ac nc cc), (.slice A147 n148 c149)] ∧ Blk W g184 58 [(.slice A sd.length c), (.int .i64 idx)]) (fun i => i == 8 || i == 10) 11 #[false, false, false, false, false, false, false, false, false, false, false] rfl rfl rfl ?_
            rw [e339]; clear e339
            refine qp 0 (.pointer (some ⟨g10, 2, none⟩)) F336 rfl rfl (fun W => (rn_field Tryd.underlying30 rfl (by kernel_rfl) (F336.get rfl) rfl)) fun _ F342 => ?_; clear F336
            have b344 := (b332.ext hx338)
            have b345 := (((grown_blk hf318 hg314 b308 (by decide)).grownN hg333 (by omega)).ext hx338)
            have hS343 : Ext w337 w337 ∧ Blk w337 g10 30 [(.int .i64 idx), (.slice A310 (no + 1) c311), (.slice Ac nc cc), (.slice A147 n148 c149)] ∧ Blk w337 g184 58 [(.slice A sd.length c), (.int .i64 idx)] := ⟨(Ext.refl w337), b344, b345⟩
            refine qs 1 (.slice Ac nc cc) F342 rfl rfl hS343 (fun W hW => (rn_load (isAgg_no Tryd.underlying28 rfl) (F342.get rfl) (hW.2.1.rule.1 2))) fun _ F347 => ?_; clear F342
            refine anyt_val (i := 2) (v := (.agg #[(.slice A sd.length c), (.int .i64 idx)])) [6, 7, 8, 9, 10] F347 (fun j hj => by simp at hj; first | (subst hj; decide) | (rcases hj with rfl | rfl <;> decide)) (by decide +kernel) (by decide +kernel) rfl rfl rfl rfl (fun _ _ _ _ h => h) rfl hS343 (fun W hW => (rn_loadBlk (F347.get rfl) hW.2.2 Tryd.underlying58 rfl inf58)) ?_
            intro a348 F349; clear F347
            refine qp 3 (.int .i64 (k : Nat)) F349 rfl rfl (fun W => (rn_move (F349.get rfl))) fun _ F351 => ?_; clear F349
            refine qp 4 (.bool ((bitsL (treeD (pubsL sd ((many : Int).toNat))) ((idx : Int).toNat) msg).getD k false)) F351 rfl rfl (fun W => (rn_move (F351.get rfl))) fun _ F353 => ?_; clear F351
            refine qp 5 (.bool (!((bitsL (treeD (pubsL sd ((many : Int).toNat))) ((idx : Int).toNat) msg).getD k false))) F353 rfl rfl (fun W => (rn_not' (F353.get rfl) rfl)) fun _ F355 => ?_; clear F353
            refine any_one (i := 6) (by decide +kernel) rfl ?_
            have d356 := (hc.pres (((Pres.row (((((Pres.refl w).ext hx230).ext hx269).ext hx287).ext hx300) hg314 hf318 (fun b hb h => by simp only [Clip] at h; omega)).grownN hg333 (fun h => by simp only [Clip] at h; omega)).ext hx338))
            refine o_call F355 rfl rfl rfl rfl (rn_call (args3 (F355.get rfl) (F355.get rfl) (F355.get rfl)) rfl (by kernel_rfl)) (hash_int (v := (.slice A sd.length c)) (m := sd.length) sd idx k (!((bitsL (treeD (pubsL sd ((many : Int).toNat))) ((idx : Int).toNat) msg).getD k false)) _ d356 (hG.ext (((ext_row (((((Ext.refl w).trans hx230).trans hx269).trans hx287).trans hx300) hg314 hf318 (by omega)).grownN hg333 (by omega)).trans hx338)) (by omega) (by omega) (by omega) (by omega)) ?_
            rintro _ w357 ⟨rfl, hx358⟩
            refine ⟨_, rfl, ?_⟩; intro a359 F360; clear F355; have z361 := hx358.size
            have b362 := (b344.ext hx358)
            have b363 := (b345.ext hx358)
            refine ⟨fun _ _ => ⟨((Ext.refl w337).trans hx358), b362, b363⟩, ?_⟩
            refine any_one (i := 7) (by decide +kernel) rfl ?_
            have r364 := (own_ext (own_ext (own_grownT r313 b334 hg333 (by decide)) hx338) hx358)
            have hf365 := r364
            have r366 := (own_ext (own_ext (own_grownT (own_grownR r321 hg314 ap323) b334 hg333 (by decide)) hx338) hx358)
            have hf367 := r366
            refine o_new (fun g => (.slice (some ⟨g, 0, none⟩) 1 1)) (byteVals ((hashD sd (idx : Int).toNat k (!((bitsL (treeD (pubsL sd ((many : Int).toNat))) ((idx : Int).toNat) msg).getD k false))))) 37 F360 rfl rfl rfl rfl (rn_buildSlice (parts1 (F360.get rfl)) (build_wholeE (vs := [(.agg (byteVals (hashD sd (idx : Int).toNat k (!((bitsL (treeD (pubsL sd ((many : Int).toNat))) ((idx : Int).toNat) msg).getD k false)))).toArray)]) El28 rfl rfl (fun v hv => by rw [List.mem_singleton.1 hv]; exact (byteVals_len (hashD_len _ _ _ _))) (by decide) (by decide) (by simp [Value.cells, byteVals]))) ?_
            intro g368 w369 a374 F375 z372 z373 b370 hx371; clear F360
            have nb376 := own_new (g := g368) hf365 (by omega)
            have nb377 := own_new (g := g368) hf367 (by omega)
            have b378 := (b362.ext hx371)
            have b379 := (b363.ext hx371)
            refine ⟨fun _ _ => ⟨(((Ext.refl w337).trans hx358).trans hx371), b378, b379⟩, ?_⟩
            refine any_one (i := 8) (by decide +kernel) rfl ?_
            have r380 := (own_ext r366 hx371)
            have hf389 := r380
            have b390 := (((((b299.grown hg314 nb319).grownN hg333 (by omega)).ext hx338).ext hx358).ext hx371)
            have nb391 : some g297 ≠ (Value.slice Ac nc cc).ownBlock := nb306
            have z392 := b390.lt
            have nb393 : some g368 ≠ (Value.slice Ac nc cc).ownBlock := nb377
            have z394 := b370.lt
            have r395 := (own_ext r364 hx371)
            have hf396 := r395
            have ap397 : Apart (.slice A310 (no + 1) c311) (.slice Ac nc cc) := (Apart.symm ap328)
            refine o_appB (zs := digVals (lc ++ ([hashD sd (idx : Int).toNat k (!((bitsL (treeD (pubsL sd ((many : Int).toNat))) ((idx : Int).toNat) msg).getD k false))]))) El28 F375 rfl rfl rfl rfl rfl (F375.get rfl) (F375.get rfl) hf389 (Fl.cel (Fl.digblk (S := fun b => b = g368) b370 (All32.sing (hashD_len _ _ _ _)) (by simp [digVals, byteVals]))).2.2 (by omega) (by omega) (by omega) (digVals_app _ _) ?_
            intro A381 c382 w383 a398 F399 r384 hg385 z386 z387 hnb388; clear F375; have z400 := hg385.size
            have nb401 := hnb388 g297 (by omega) nb391
            have nb402 := hnb388 g368 (by omega) nb393
            have ap403 := Apart.app hf396 ap397 hnb388
            refine ⟨fun h => absurd h (by decide), ?_⟩
            refine qp 9 (.pointer (some ⟨g10, 2, none⟩)) F399 rfl rfl (fun W => (rn_field Tryd.underlying30 rfl (by kernel_rfl) (F399.get rfl) rfl)) fun _ F405 => ?_; clear F399
            refine any_one (i := 10) (by decide +kernel) rfl ?_
            have b409 := (grown_blk hf389 hg385 b378 (by decide))
            refine o_store1 (new := [(.int .i64 idx), (.slice A310 (no + 1) c311), (.slice A381 (nc + 1) c382), (.slice A147 n148 c149)]) F405 rfl rfl rfl rfl (F405.get rfl) (F405.get rfl) b409 inf28 (by simp) rfl rfl ?_
            intro w406 b407 hg408; have z410 := hg408.size
            refine ⟨fun h => absurd h (by decide), ?_⟩
            refine any_nil (by decide +kernel) ?_
            refine hK257 _ _ ?_
            clear hK257
            have F411 := ((((((((((((((((F405.nil.c F405 11 rfl).c F405 10 rfl).c F405 53 rfl).c F405 52 rfl).c F405 51 rfl).c F405 9 rfl).c F405 8 rfl).c F405 22 rfl).c F405 17 rfl).c F405 12 rfl).c F405 7 rfl).c F405 6 rfl).c F405 3 rfl).c F405 2 rfl).c F405 1 rfl).c F405 0 rfl)
            clear F405
            refine wp_region_lit ?_
            refine qv 0 (.int .i64 (k + 1 : Nat)) F411 rfl (rn_addN (a := k) (b := 1) (F411.get rfl) rfl (by omega)) fun _ F413 => ?_; clear F411
            refine qv 1 (.int .i64 (k + 1 : Nat)) F413 rfl (rn_move (F413.get rfl)) fun _ F415 => ?_; clear F413
            refine wpList_nil ?_
            have d416 := (hf239.pres ((Pres.row (((((Pres.row ((((Pres.refl w228).ext hx269).ext hx287).ext hx300) hg314 hf318 (fun b hb h => by simp only [Clip] at h; omega)).grownN hg333 (fun h => by simp only [Clip] at h; omega)).ext hx338).ext hx358).ext hx371) hg385 hf389 (fun b hb h => by simp only [Clip] at h; omega)).grownN hg408 (fun h => by simp only [Clip] at h; omega)))
            have d417 := (hf240.pres ((Pres.row (((((Pres.row ((((Pres.refl w228).ext hx269).ext hx287).ext hx300) hg314 hf318 (fun b hb h => by simp only [Clip] at h; omega)).grownN hg333 (fun h => by simp only [Clip] at h; omega)).ext hx338).ext hx358).ext hx371) hg385 hf389 (fun b hb h => by simp only [Clip] at h; omega)).grownN hg408 (fun h => by simp only [Clip] at h; omega)))
            have b418 := ((grown_blk hf389 hg385 (((((grown_blk hf318 hg314 (((b234.ext hx269).ext hx287).ext hx300) (by decide)).grownN hg333 (by omega)).ext hx338).ext hx358).ext hx371) (by decide)).grownN hg408 (by omega))
            have b419 := ((grown_blk hf389 hg385 b379 (by decide)).grownN hg408 (by omega))
            have r420 := (own_grownT (own_grownR r395 hg385 ap397) b409 hg408 (by decide))
            have r421 := (own_grownT r384 b409 hg408 (by decide))
            refine ⟨⟨(k + 1), A310, no + 1, c311, lo ++ ([secretD sd (idx : Int).toNat k ((bitsL (treeD (pubsL sd ((many : Int).toNat))) ((idx : Int).toNat) msg).getD k false)]), A381, nc + 1, c382, lc ++ ([hashD sd (idx : Int).toNat k (!((bitsL (treeD (pubsL sd ((many : Int).toNat))) ((idx : Int).toNat) msg).getD k false))]), (((((((((((((F415.nil.cons (q_get F415 (t := 52) rfl (by first | rfl | (congr 1; omega) | (congr 1; done)))).cons (q_get F415 (t := 51) rfl rfl)).cons (q_get F415 (t := 9) rfl rfl)).cons (q_get F415 (t := 8) rfl rfl)).cons (q_get F415 (t := 22) rfl rfl)).cons (q_get F415 (t := 17) rfl rfl)).cons (q_get F415 (t := 12) rfl rfl)).cons (q_get F415 (t := 7) rfl rfl)).cons (q_get F415 (t := 6) rfl rfl)).cons (q_get F415 (t := 3) rfl rfl)).cons (q_get F415 (t := 2) rfl rfl)).cons (q_get F415 (t := 1) rfl rfl)).cons (q_get F415 (t := 0) rfl rfl)), ⟨by omega, by omega, by omega⟩, (opTo_step' hp232 rfl), (clTo_step' hp233 rfl rfl), ((ext_row (((((ext_row (((((Ext.refl w).trans hx230).trans hx269).trans hx287).trans hx300) hg314 hf318 (by omega)).grownN hg333 (by omega)).trans hx338).trans hx358).trans hx371) hg385 hf389 (by omega)).grownN hg408 (by omega)), b418, b407, b419, r420, r421, d416, d417, ap403, (by omega), (by omega), (by omega)⟩, ?_⟩
            rw [F415.get (t := 52) rfl, hL245.get (t := 52) rfl]; simp [intOf] <;> omega
          · skip
            refine wp_cond_false (c_false F254 rfl (decide_eq_false hc256)) ?_
            refine wp_exit ?_
            refine exit_then ?_
            refine exit_then ?_
            refine exit_here ?_
            refine hK197 _ _ ?_
            clear hK197
            refine wp_seq_k (fun K422 hK422 => ?_)
            refine wp_region_lit ?_
            refine qv 0 (.agg #[(.int .i64 idx), (.slice Ao no co), (.slice Ac nc cc), (.slice A147 n148 c149)]) F254 rfl (rn_loadBlk (F254.get rfl) b235 Tryd.underlying30 rfl inf30) fun _ F424 => ?_; clear F254
            refine wpl_op (i := 1) rfl (o_store (cells := [(.int .i64 idx), (.slice Ao no co), (.slice Ac nc cc), (.slice A147 n148 c149)]) F424 rfl rfl rfl rfl (F424.get rfl) (F424.get rfl) b235 inf30 rfl (by simp [Value.oneCell']) ?_)
            intro w425 b426 hg427; have z428 := hg427.size
            refine qv 2 (.int .i64 0) F424 rfl (rn_assign rfl) fun _ F430 => ?_; clear F424
            refine wpList_nil ?_
            refine hK422 _ _ ?_
            clear hK422
            refine wp_ret ?_
            refine retC1 F430 rfl rfl rfl b426 Tryd.underlying30 rfl inf30 ?_
            have hk : k = 64 := by omega
            have ho := hp232
            have hcl := hp233
            rw [hk] at ho hcl
            have he := signE4 (idx := idx) (msg := msg) hc35 (by omega) (by omega)
            have hn := signF_yes (idx := idx) (msg := msg) hc35 (by omega) (by omega)
            rw [← ho, ← hcl] at hn
            have r431 := (own_grownT r237 b235 hg427 (by decide))
            have r432 := (own_grownT r238 b235 hg427 (by decide))
            have d433 := (hf240.pres ((Pres.refl w228).grownN hg427 (fun h => by simp only [Clip] at h; omega)))
            exact ⟨_, _, _, _, _, _, _, _, _, by rw [he, hn], by rw [hn]; exact Fl.sub (Fl.own (S := fun b => w214.heap.size ≤ b) r431 (fun b hb => hb) (digVals_one _)) (fun b hb => by first | omega | (simp only [Clip] at hb; omega)), by rw [hn]; exact Fl.sub (Fl.own (S := fun b => w214.heap.size ≤ b) r432 (fun b hb => hb) (digVals_one _)) (fun b hb => by first | omega | (simp only [Clip] at hb; omega)), by rw [hn]; exact Fl.sub d433 (fun b hb => by first | omega | (simp only [Clip] at hb; omega)), (((Ext.refl w).trans hx230).grownN hg427 (by omega))⟩
  · skip
    refine wp_cond_true (c_true F34 rfl (not_f hc35)) ?_
    refine wp_seq_k (fun K434 hK434 => ?_)
    refine wp_region_lit ?_
    have b435 := (b12.ext hx27)
    refine qv 0 (.agg #[(.int .i64 0), (.slice none 0 0), (.slice none 0 0), (.slice none 0 0)]) F34 rfl (rn_loadBlk (F34.get rfl) b435 Tryd.underlying30 rfl inf30) fun _ F437 => ?_; clear F34
    refine wpl_op (i := 1) rfl (o_store (cells := [(.int .i64 0), (.slice none 0 0), (.slice none 0 0), (.slice none 0 0)]) F437 rfl rfl rfl rfl (F437.get rfl) (F437.get rfl) b435 inf30 rfl (by simp [Value.oneCell']) ?_)
    intro w438 b439 hg440; have z441 := hg440.size
    refine qv 2 (.int .i64 40) F437 rfl (rn_assign rfl) fun _ F443 => ?_; clear F437
    refine wpList_nil ?_
    refine hK434 _ _ ?_
    clear hK434
    have F444 := (((((((F443.nil.c F443 12 rfl).c F443 7 rfl).c F443 6 rfl).c F443 3 rfl).c F443 2 rfl).c F443 1 rfl).c F443 0 rfl)
    clear F443
    refine wp_ret ?_
    refine ret_block ?_
    refine ret_then ?_
    refine retC1 F444 rfl rfl rfl b439 Tryd.underlying30 rfl inf30 ?_
    have he : signE sd many used idx msg = 40 := signE1 hc35
    have hn := signF_no he (by decide)
    exact ⟨none, 0, 0, none, 0, 0, none, 0, 0, by rw [he, hn]; rfl, by rw [hn]; exact Fl.nil _, by rw [hn]; exact Fl.nil _, by rw [hn]; exact Fl.nil _, (((((Ext.refl w).trans hx5).trans hx13).trans hx27).grownN hg440 (by omega))⟩

theorem sign_at {S2 : Nat → Prop} {v u : Value} {m n : Nat} (sd : List UInt8) (many used idx : Int) (msg : List UInt8) (w : World) (hf : Fl S w 1 v m (byteVals sd)) (hm : Fl S2 w 1 u n (byteVals msg)) (hG : Glob w) :
    Calls Tryd.prog 14 #[.agg #[v, .int .i64 many, .int .i64 used], .int .i64 idx, u] w (fun e w' => ∃ A1 n1 c1 A2 n2 c2 A3 n3 c3, e = .returned (.tuple #[.agg #[.int .i64 (signF sd many used idx msg).index, .slice A1 n1 c1, .slice A2 n2 c2, .slice A3 n3 c3], .int .i64 (signE sd many used idx msg)]) ∧ Fl (fun b => w.heap.size ≤ b) w' 32 (.slice A1 n1 c1) n1 (digVals (signF sd many used idx msg).op) ∧ Fl (fun b => w.heap.size ≤ b) w' 32 (.slice A2 n2 c2) n2 (digVals (signF sd many used idx msg).cl) ∧ Fl (fun b => w.heap.size ≤ b) w' 32 (.slice A3 n3 c3) n3 (digVals (signF sd many used idx msg).path) ∧ Ext w w') := by
  have h1 := hf.blen
  have h2 := hm.blen
  subst h1
  subst h2
  obtain ⟨A, c, rfl, _⟩ := hf.form
  obtain ⟨B, cb, rfl, _⟩ := hm.form
  exact sign_any (S := fun _ => True) A c sd many used idx B cb msg w (hf.sub fun _ _ => trivial) (hm.sub fun _ _ => trivial) hG

set_option maxRecDepth 100000 in
set_option maxHeartbeats 1000000 in
theorem rsign_any (A : Option Addr) (c : Nat) (sd : List UInt8) (many used idx : Int) (B : Option Addr) (cb : Nat) (msg : List UInt8) (w : World) (hf : Fl S w 1 (.slice A sd.length c) sd.length (byteVals sd)) (hm : Fl S w 1 (.slice B msg.length cb) msg.length (byteVals msg)) :
    Calls Tryd.prog 15 #[.agg #[.slice A sd.length c, .int .i64 many, .int .i64 used], .int .i64 idx, .slice B msg.length cb] w (fun e w' => ∃ A1 n1 c1 A2 n2 c2 A3 n3 c3, e = .returned (.tuple #[.agg #[.int .i64 (signF sd many used idx msg).index, .slice A1 n1 c1, .slice A2 n2 c2, .slice A3 n3 c3], .int .i64 (signE sd many used idx msg)]) ∧ Fl (fun b => w.heap.size ≤ b) w' 32 (.slice A1 n1 c1) n1 (digVals (signF sd many used idx msg).op) ∧ Fl (fun b => w.heap.size ≤ b) w' 32 (.slice A2 n2 c2) n2 (digVals (signF sd many used idx msg).cl) ∧ Fl (fun b => w.heap.size ≤ b) w' 32 (.slice A3 n3 c3) n3 (digVals (signF sd many used idx msg).path) ∧ Ext w w') := by
  have hc : Fl (Clip S w) w 1 (.slice A sd.length c) sd.length (byteVals sd) := hf.clip
  have hcc := (Fl.cel hc).2.1
  have hb : Fl (Clip S w) w 1 (.slice B msg.length cb) msg.length (byteVals msg) := hm.clip
  have hbc := (Fl.cel hb).2.1
  refine calls_enter (l := [(.agg #[(.slice A sd.length c), (.int .i64 many), (.int .i64 used)]), (.int .i64 idx), (.slice B msg.length cb)]) Tryd.func15 rfl rfl rfl (fun aA hF => ?_)
  refine wp_seq_k (fun K1 hK1 => ?_)
  refine wp_region_lit ?_
  refine wpl_op (i := 0) rfl (o_new (fun g => (.pointer (some ⟨g, 0, none⟩))) [(.slice A sd.length c), (.int .i64 many), (.int .i64 used)] 24 hF rfl rfl rfl rfl (rn_box (hF.get rfl) (by kernel_rfl)) ?_)
  intro g2 w3 a8 F9 z6 z7 b4 hx5; clear hF
  refine wpl_op (i := 1) rfl (o_new (fun g => (.pointer (some ⟨g, 0, none⟩))) [(.int .i64 0), (.slice none 0 0), (.slice none 0 0), (.slice none 0 0)] 30 F9 rfl rfl rfl rfl (by kernel_rfl) ?_)
  intro g10 w11 a16 F17 z14 z15 b12 hx13; clear F9
  refine qv 2 (.int .i64 0) F17 rfl (rn_assign rfl) fun _ F19 => ?_; clear F17
  refine wpList_nil ?_
  refine hK1 _ _ ?_
  clear hK1
  refine wp_seq_k (fun K20 hK20 => ?_)
  refine wp_seq_k (fun K21 hK21 => ?_)
  refine wp_region_lit ?_
  have b22 := (b4.ext hx13)
  refine qv 0 (.agg #[(.slice A sd.length c), (.int .i64 many), (.int .i64 used)]) F19 rfl (rn_loadBlk (F19.get rfl) b22 Tryd.underlying24 rfl inf24) fun _ F24 => ?_; clear F19
  have d25 := ((hc.ext hx5).ext hx13)
  refine wpl_op (i := 1) rfl (o_call F24 rfl rfl rfl rfl (rn_call (args1 (F24.get rfl)) rfl (by kernel_rfl)) (rvalid_at (v := (.slice A sd.length c)) (m := sd.length) sd many used _ d25) ?_)
  rintro _ w26 ⟨rfl, hx27⟩
  refine ⟨_, rfl, ?_⟩; intro a28 F29; clear F24; have z30 := hx27.size
  refine qv 2 (.bool (!(kOk sd many used))) F29 rfl (rn_not' (F29.get rfl) rfl) fun _ F32 => ?_; clear F29
  refine wpList_nil ?_
  refine hK21 _ _ ?_
  clear hK21
  rcases Bool.eq_false_or_eq_true (kOk sd many used) with hc33 | hc33
  · skip
    refine wp_cond_false (c_false F32 rfl (not_t hc33)) ?_
    refine wp_skip ?_
    refine hK20 _ _ ?_
    clear hK20
    refine wp_seq_k (fun K34 hK34 => ?_)
    refine wp_seq_k (fun K35 hK35 => ?_)
    refine wp_region_lit ?_
    refine qv 0 (.slice B msg.length cb) F32 rfl (rn_move (F32.get rfl)) fun _ F37 => ?_; clear F32
    refine qv 1 (.int .i64 (msg.length : Nat)) F37 rfl (rn_len_slice Tryd.underlying22 (F37.get rfl)) fun _ F39 => ?_; clear F37
    refine qv 2 (.bool (decide ((65536 : Int) < ((msg.length : Nat) : Int)))) F39 rfl (rn_gtr (F39.get rfl) rfl) fun _ F41 => ?_; clear F39
    refine wpList_nil ?_
    refine hK35 _ _ ?_
    clear hK35
    have F42 := ((((((((F41.nil.c F41 19 rfl).c F41 15 rfl).c F41 7 rfl).c F41 6 rfl).c F41 3 rfl).c F41 2 rfl).c F41 1 rfl).c F41 0 rfl)
    clear F41
    by_cases hc43 : (65536 : Int) < ((msg.length : Nat) : Int)
    · skip
      refine wp_cond_true (c_true F42 rfl (decide_eq_true hc43)) ?_
      refine wp_seq_k (fun K44 hK44 => ?_)
      refine wp_region_lit ?_
      refine qv 0 (.agg #[(.int .i64 0), (.slice none 0 0), (.slice none 0 0), (.slice none 0 0)]) F42 rfl (rn_build (parts0 ) (by kernel_rfl)) fun _ F46 => ?_; clear F42
      have b50 := (b12.ext hx27)
      refine wpl_op (i := 1) rfl (o_store (cells := [(.int .i64 0), (.slice none 0 0), (.slice none 0 0), (.slice none 0 0)]) F46 rfl rfl rfl rfl (F46.get rfl) (F46.get rfl) b50 inf30 rfl (by simp [Value.oneCell']) ?_)
      intro w47 b48 hg49; have z51 := hg49.size
      refine qv 2 (.int .i64 2) F46 rfl (rn_assign rfl) fun _ F53 => ?_; clear F46
      refine wpList_nil ?_
      refine hK44 _ _ ?_
      clear hK44
      refine wp_ret ?_
      refine ret_then ?_
      refine retC1 F53 rfl rfl rfl b48 Tryd.underlying30 rfl inf30 ?_
      have he : signE sd many used idx msg = 2 := signE2 hc33 (by omega)
      have hn := signF_no he (by decide)
      exact ⟨none, 0, 0, none, 0, 0, none, 0, 0, by rw [he, hn]; rfl, by rw [hn]; exact Fl.nil _, by rw [hn]; exact Fl.nil _, by rw [hn]; exact Fl.nil _, (((((Ext.refl w).trans hx5).trans hx13).trans hx27).grownN hg49 (by omega))⟩
    · skip
      refine wp_cond_false (c_false F42 rfl (decide_eq_false hc43)) ?_
      refine wp_skip ?_
      refine hK34 _ _ ?_
      clear hK34
      refine wp_seq_k (fun K54 hK54 => ?_)
      refine wp_seq_k (fun K55 hK55 => ?_)
      refine wp_region_lit ?_
      refine qv 0 (.int .i64 idx) F42 rfl (rn_move (F42.get rfl)) fun _ F57 => ?_; clear F42
      refine qv 1 (.bool (decide ((idx : Int) < (0 : Int)))) F57 rfl (rn_lss (F57.get rfl) rfl) fun _ F59 => ?_; clear F57
      refine qv 2 (.bool (decide ((idx : Int) < (0 : Int)))) F59 rfl (rn_move (F59.get rfl)) fun _ F61 => ?_; clear F59
      by_cases hc62 : (idx : Int) < (0 : Int)
      · skip
        refine qu 3 F61 (decide_eq_true hc62) fun _ F64 => ?_; clear F61
        refine qu 4 F64 (decide_eq_true hc62) fun _ F66 => ?_; clear F64
        refine qu 5 F66 (decide_eq_true hc62) fun _ F68 => ?_; clear F66
        refine qu 6 F68 (decide_eq_true hc62) fun _ F70 => ?_; clear F68
        refine qv 7 (.bool true) F70 rfl (rn_pickT (c_true F70 rfl (decide_eq_true hc62)) rfl) fun _ F72 => ?_; clear F70
        refine wpList_nil ?_
        refine hK55 _ _ ?_
        clear hK55
        have F73 := (((((((((F72.nil.c F72 28 rfl).c F72 19 rfl).c F72 15 rfl).c F72 7 rfl).c F72 6 rfl).c F72 3 rfl).c F72 2 rfl).c F72 1 rfl).c F72 0 rfl)
        clear F72
        refine wp_cond_true (c_true F73 rfl rfl) ?_
        refine wp_seq_k (fun K74 hK74 => ?_)
        refine wp_region_lit ?_
        refine qv 0 (.agg #[(.int .i64 0), (.slice none 0 0), (.slice none 0 0), (.slice none 0 0)]) F73 rfl (rn_build (parts0 ) (by kernel_rfl)) fun _ F76 => ?_; clear F73
        have b80 := (b12.ext hx27)
        refine wpl_op (i := 1) rfl (o_store (cells := [(.int .i64 0), (.slice none 0 0), (.slice none 0 0), (.slice none 0 0)]) F76 rfl rfl rfl rfl (F76.get rfl) (F76.get rfl) b80 inf30 rfl (by simp [Value.oneCell']) ?_)
        intro w77 b78 hg79; have z81 := hg79.size
        refine qv 2 (.int .i64 40) F76 rfl (rn_assign rfl) fun _ F83 => ?_; clear F76
        refine wpList_nil ?_
        refine hK74 _ _ ?_
        clear hK74
        refine wp_ret ?_
        refine ret_then ?_
        refine retC1 F83 rfl rfl rfl b78 Tryd.underlying30 rfl inf30 ?_
        have he : signE sd many used idx msg = 40 := signE3 hc33 (by omega) (by omega)
        have hn := signF_no he (by decide)
        exact ⟨none, 0, 0, none, 0, 0, none, 0, 0, by rw [he, hn]; rfl, by rw [hn]; exact Fl.nil _, by rw [hn]; exact Fl.nil _, by rw [hn]; exact Fl.nil _, (((((Ext.refl w).trans hx5).trans hx13).trans hx27).grownN hg79 (by omega))⟩
      · skip
        refine qg 3 (.int .i64 idx) F61 (decide_eq_false hc62) (rn_move (F61.get rfl)) fun _ F85 => ?_; clear F61
        refine qg 4 (.pointer (some ⟨g2, 1, none⟩)) F85 (decide_eq_false hc62) (rn_field Tryd.underlying24 rfl (by kernel_rfl) (F85.get rfl) rfl) fun _ F87 => ?_; clear F85
        have b88 := (b22.ext hx27)
        refine qg 5 (.int .i64 many) F87 (decide_eq_false hc62) (rn_load (isAgg_no Tryd.underlying3 rfl) (F87.get rfl) (b88.rule.1 1)) fun _ F90 => ?_; clear F87
        refine qg 6 (.bool (decide ((many : Int) ≤ (idx : Int)))) F90 (decide_eq_false hc62) (rn_geq (F90.get rfl) (F90.get rfl)) fun _ F92 => ?_; clear F90
        refine qv 7 (.bool (decide ((many : Int) ≤ (idx : Int)))) F92 rfl (rn_pickF (c_false F92 rfl (decide_eq_false hc62)) (F92.get rfl)) fun _ F94 => ?_; clear F92
        refine wpList_nil ?_
        refine hK55 _ _ ?_
        clear hK55
        have F95 := (((((((((F94.nil.c F94 28 rfl).c F94 19 rfl).c F94 15 rfl).c F94 7 rfl).c F94 6 rfl).c F94 3 rfl).c F94 2 rfl).c F94 1 rfl).c F94 0 rfl)
        clear F94
        by_cases hc96 : (many : Int) ≤ (idx : Int)
        · skip
          refine wp_cond_true (c_true F95 rfl (decide_eq_true hc96)) ?_
          refine wp_seq_k (fun K97 hK97 => ?_)
          refine wp_region_lit ?_
          refine qv 0 (.agg #[(.int .i64 0), (.slice none 0 0), (.slice none 0 0), (.slice none 0 0)]) F95 rfl (rn_build (parts0 ) (by kernel_rfl)) fun _ F99 => ?_; clear F95
          have b103 := (b12.ext hx27)
          refine wpl_op (i := 1) rfl (o_store (cells := [(.int .i64 0), (.slice none 0 0), (.slice none 0 0), (.slice none 0 0)]) F99 rfl rfl rfl rfl (F99.get rfl) (F99.get rfl) b103 inf30 rfl (by simp [Value.oneCell']) ?_)
          intro w100 b101 hg102; have z104 := hg102.size
          refine qv 2 (.int .i64 40) F99 rfl (rn_assign rfl) fun _ F106 => ?_; clear F99
          refine wpList_nil ?_
          refine hK97 _ _ ?_
          clear hK97
          refine wp_ret ?_
          refine ret_then ?_
          refine retC1 F106 rfl rfl rfl b101 Tryd.underlying30 rfl inf30 ?_
          have he : signE sd many used idx msg = 40 := signE3 hc33 (by omega) (by omega)
          have hn := signF_no he (by decide)
          exact ⟨none, 0, 0, none, 0, 0, none, 0, 0, by rw [he, hn]; rfl, by rw [hn]; exact Fl.nil _, by rw [hn]; exact Fl.nil _, by rw [hn]; exact Fl.nil _, (((((Ext.refl w).trans hx5).trans hx13).trans hx27).grownN hg102 (by omega))⟩
        · skip
          refine wp_cond_false (c_false F95 rfl (decide_eq_false hc96)) ?_
          refine wp_skip ?_
          refine hK54 _ _ ?_
          clear hK54
          refine wp_seq_k (fun K107 hK107 => ?_)
          have hko108 := kOk_iff.1 hc33
          refine wp_region_lit ?_
          refine qv 0 (.agg #[(.slice A sd.length c), (.int .i64 many), (.int .i64 used)]) F95 rfl (rn_loadBlk (F95.get rfl) b88 Tryd.underlying24 rfl inf24) fun _ F110 => ?_; clear F95
          have d111 := (((hc.ext hx5).ext hx13).ext hx27)
          refine wpl_op (i := 1) rfl (o_call F110 rfl rfl rfl rfl (rn_call (args1 (F110.get rfl)) rfl (by kernel_rfl)) (keys_int (v := (.slice A sd.length c)) (m := sd.length) sd many used _ d111 (by omega) (by omega) (by omega)) ?_)
          rintro _ w116 ⟨A112, c113, rfl, hf114, hx117⟩
          have z115 := (Fl.cel hf114).2.1
          refine ⟨_, rfl, ?_⟩; intro a118 F119; clear F110; have z120 := hx117.size
          have hf121 : Fl (Clip (fun b => w26.heap.size ≤ b) w116) w116 32 (.slice A112 ((many : Int).toNat) c113) ((many : Int).toNat) (digVals (pubsL sd ((many : Int).toNat))) := hf114.clip
          refine qv 2 (.slice A112 ((many : Int).toNat) c113) F119 rfl (rn_assign (F119.get rfl)) fun _ F123 => ?_; clear F119
          refine wpList_nil ?_
          refine hK107 _ _ ?_
          clear hK107
          refine wp_seq_k (fun K124 hK124 => ?_)
          refine wp_region_lit ?_
          refine qv 0 (.int .i64 idx) F123 rfl (rn_move (F123.get rfl)) fun _ F126 => ?_; clear F123
          refine qv 1 (.agg #[(.int .i64 idx), (.slice none 0 0), (.slice none 0 0), (.slice none 0 0)]) F126 rfl (rn_build (parts1 (F126.get rfl)) (by kernel_rfl)) fun _ F128 => ?_; clear F126
          refine wpl_op (i := 2) rfl (o_new (fun g => (.pointer (some ⟨g, 0, none⟩))) [(.int .i64 0), (.slice none 0 0), (.slice none 0 0), (.slice none 0 0)] 30 F128 rfl rfl rfl rfl (by kernel_rfl) ?_)
          intro g129 w130 a135 F136 z133 z134 b131 hx132; clear F128
          refine wpl_op (i := 3) rfl (o_store (cells := [(.int .i64 idx), (.slice none 0 0), (.slice none 0 0), (.slice none 0 0)]) F136 rfl rfl rfl rfl (F136.get rfl) (F136.get rfl) b131 inf30 rfl (by simp [Value.oneCell']) ?_)
          intro w137 b138 hg139; have z140 := hg139.size
          refine wpList_nil ?_
          refine hK124 _ _ ?_
          clear hK124
          have F141 := (((((((((((F136.nil.c F136 9 rfl).c F136 8 rfl).c F136 28 rfl).c F136 19 rfl).c F136 15 rfl).c F136 7 rfl).c F136 6 rfl).c F136 3 rfl).c F136 2 rfl).c F136 1 rfl).c F136 0 rfl)
          clear F136
          refine wp_seq_k (fun K142 hK142 => ?_)
          refine wp_region_lit ?_
          refine qv 0 (.slice A112 ((many : Int).toNat) c113) F141 rfl (rn_move (F141.get rfl)) fun _ F144 => ?_; clear F141
          have d145 := (hf121.pres (((Pres.refl w116).ext hx132).grownN hg139 (fun h => by simp only [Clip] at h; omega)))
          have hf146 := d145
          refine wpl_op (i := 1) rfl (o_call F144 rfl rfl rfl rfl (rn_call (args1 (F144.get rfl)) rfl (by kernel_rfl)) (rtree_at (pubsL sd ((many : Int).toNat)) _ (n := (many : Int).toNat) (v := (.slice A112 ((many : Int).toNat) c113)) (pubsL_32 _ _) hf146 (by omega)) ?_)
          rintro _ w147 ⟨rfl, hx148⟩
          refine ⟨_, rfl, ?_⟩; intro a149 F150; clear F144; have z151 := hx148.size
          refine qv 2 (.int .i64 idx) F150 rfl (rn_move (F150.get rfl)) fun _ F153 => ?_; clear F150
          refine qv 3 (.slice B msg.length cb) F153 rfl (rn_move (F153.get rfl)) fun _ F155 => ?_; clear F153
          have d156 := (hb.pres ((((((((Pres.refl w).ext hx5).ext hx13).ext hx27).ext hx117).ext hx132).grownN hg139 (fun h => by simp only [Clip] at h; omega)).ext hx148))
          refine wpl_op (i := 4) rfl (o_call F155 rfl rfl rfl rfl (rn_call (args3 (F155.get rfl) (F155.get rfl) (F155.get rfl)) rfl (by kernel_rfl)) (rbits_in (v := (.slice B msg.length cb)) (m := msg.length) (treeD (pubsL sd ((many : Int).toNat))) idx msg _ (treeD_len _) d156 (by omega) (by omega) (by omega)) ?_)
          rintro _ w161 ⟨A157, c158, rfl, hf159, hx162⟩
          have z160 := (Fl.cel hf159).2.1
          refine ⟨_, rfl, ?_⟩; intro a163 F164; clear F155; have z165 := hx162.size
          have hf166 : Fl (Clip (fun b => w147.heap.size ≤ b) w161) w161 1 (.slice A157 64 c158) 64 (boolVals (bitsL (treeD (pubsL sd ((many : Int).toNat))) (idx : Int).toNat msg)) := hf159.clip
          refine qv 5 (.slice A157 64 c158) F164 rfl (rn_assign (F164.get rfl)) fun _ F168 => ?_; clear F164
          refine wpList_nil ?_
          refine hK142 _ _ ?_
          clear hK142
          have F169 := ((((((((((((F168.nil.c F168 10 rfl).c F168 9 rfl).c F168 8 rfl).c F168 28 rfl).c F168 19 rfl).c F168 15 rfl).c F168 7 rfl).c F168 6 rfl).c F168 3 rfl).c F168 2 rfl).c F168 1 rfl).c F168 0 rfl)
          clear F168
          refine wp_seq_k (fun K170 hK170 => ?_)
          refine wp_seq_k (fun K171 hK171 => ?_)
          refine wp_region_lit ?_
          refine qv 0 (.int .i64 0) F169 rfl (rn_assign rfl) fun _ F173 => ?_; clear F169
          refine wpList_nil ?_
          refine hK171 _ _ ?_
          clear hK171
          refine wp_block ?_
          have d174 := (hf121.pres (((((Pres.refl w116).ext hx132).grownN hg139 (fun h => by simp only [Clip] at h; omega)).ext hx148).ext hx162))
          have b175 := (((((b88.ext hx117).ext hx132).grownN hg139 (by omega)).ext hx148).ext hx162)
          have b176 := ((((((b12.ext hx27).ext hx117).ext hx132).grownN hg139 (by omega)).ext hx148).ext hx162)
          have b177 := ((b138.ext hx148).ext hx162)
          refine wp_loop (fun a' W => ∃ (k : Nat) (Ao : Option Addr) (no : Nat) (co : Nat) (lo : List (List UInt8)) (Ac : Option Addr) (nc : Nat) (cc : Nat) (lc : List (List UInt8)), Sl 77 [(0, (.agg #[(.slice A sd.length c), (.int .i64 many), (.int .i64 used)])), (1, (.int .i64 idx)), (2, (.slice B msg.length cb)), (3, (.pointer (some ⟨g2, 0, none⟩))), (6, (.pointer (some ⟨g10, 0, none⟩))), (7, (.int .i64 0)), (15, (.bool (!(kOk sd many used)))), (19, (.bool (decide ((65536 : Int) < ((msg.length : Nat) : Int))))), (28, (.bool (decide ((many : Int) ≤ (idx : Int))))), (8, (.slice A112 ((many : Int).toNat) c113)), (9, (.pointer (some ⟨g129, 0, none⟩))), (10, (.slice A157 64 c158)), (11, (.int .i64 (k : Nat)))] a' ∧ (k ≤ 64 ∧ no = k ∧ nc = k) ∧ lo = opTo sd (idx : Int).toNat (bitsL (treeD (pubsL sd ((many : Int).toNat))) (idx : Int).toNat msg) k ∧ lc = clTo sd (idx : Int).toNat (bitsL (treeD (pubsL sd ((many : Int).toNat))) (idx : Int).toNat msg) k ∧ Ext w W ∧ Blk W g2 24 [(.slice A sd.length c), (.int .i64 many), (.int .i64 used)] ∧ Blk W g10 30 [(.int .i64 0), (.slice none 0 0), (.slice none 0 0), (.slice none 0 0)] ∧ Blk W g129 30 [(.int .i64 idx), (.slice Ao no co), (.slice Ac nc cc), (.slice none 0 0)] ∧ W.ownsRow w161.heap.size 37 32 (.slice Ao no co) no (digVals lo) ∧ W.ownsRow w161.heap.size 37 32 (.slice Ac nc cc) nc (digVals lc) ∧ Fl (Clip (fun b => w26.heap.size ≤ b) w116) W 32 (.slice A112 ((many : Int).toNat) c113) ((many : Int).toNat) (digVals (pubsL sd ((many : Int).toNat))) ∧ Fl (Clip (fun b => w147.heap.size ≤ b) w161) W 1 (.slice A157 64 c158) 64 (boolVals (bitsL (treeD (pubsL sd ((many : Int).toNat))) (idx : Int).toNat msg)) ∧ Apart (.slice Ao no co) (.slice Ac nc cc) ∧ w161.heap.size ≤ W.heap.size ∧ w161.heap.size ≤ W.heap.size ∧ w161.heap.size ≤ W.heap.size) (fun a' _ => 64 - (intOf (a'.eval (.tmp 11))).toNat) ⟨0, none, 0, 0, [], none, 0, 0, [], (((((((((((((F173.nil.cons (q_get F173 (t := 11) rfl (by first | rfl | (congr 1; omega) | (congr 1; done)))).cons (q_get F173 (t := 10) rfl rfl)).cons (q_get F173 (t := 9) rfl rfl)).cons (q_get F173 (t := 8) rfl rfl)).cons (q_get F173 (t := 28) rfl rfl)).cons (q_get F173 (t := 19) rfl rfl)).cons (q_get F173 (t := 15) rfl rfl)).cons (q_get F173 (t := 7) rfl rfl)).cons (q_get F173 (t := 6) rfl rfl)).cons (q_get F173 (t := 3) rfl rfl)).cons (q_get F173 (t := 2) rfl rfl)).cons (q_get F173 (t := 1) rfl rfl)).cons (q_get F173 (t := 0) rfl rfl)), ⟨by omega, by omega, by omega⟩, rfl, rfl, (((((((((Ext.refl w).trans hx5).trans hx13).trans hx27).trans hx117).trans hx132).grownN hg139 (by omega)).trans hx148).trans hx162), b175, b176, b177, (own_nil w161 w161.heap.size 37 32), (own_nil w161 w161.heap.size 37 32), d174, hf166, (Apart.symm (Apart.nil (.slice none 0 0) 0 0)), (by omega), (by omega), (Nat.le_refl _)⟩ ?_
          clear F173
          rintro a178 w179 ⟨k, Ao, no, co, lo, Ac, nc, cc, lc, F180, hp182, hp183, hp184, hx181, b185, b186, b187, r188, r189, hf190, hf191, hf192, hf193, hf194, hf195⟩
          have hL196 := F180
          have z197 := hx181.size
          have z198 := b185.lt
          have z199 := b186.lt
          have z200 := b187.lt
          have z201 := own_form0 r188
          have z202 := own_form0 r189
          have hlo32 : All32 lo := by rw [hp183]; exact opTo_32 _ _ _ _
          have hlc32 : All32 lc := by rw [hp184]; exact clTo_32 _ _ _ _
          refine wp_seq_k (fun K203 hK203 => ?_)
          refine wp_seq_k (fun K204 hK204 => ?_)
          refine wp_region_lit ?_
          refine qv 0 (.int .i64 (k : Nat)) F180 rfl (rn_move (F180.get rfl)) fun _ F206 => ?_; clear F180
          refine qv 1 (.bool (decide (((k : Nat) : Int) < (64 : Int)))) F206 rfl (rn_lss (F206.get rfl) rfl) fun _ F208 => ?_; clear F206
          refine wpList_nil ?_
          refine hK204 _ _ ?_
          clear hK204
          by_cases hc209 : ((k : Nat) : Int) < (64 : Int)
          · skip
            refine wp_cond_true (c_true F208 rfl (decide_eq_true hc209)) ?_
            refine wp_skip ?_
            refine hK203 _ _ ?_
            clear hK203
            refine wp_seq_k (fun K210 hK210 => ?_)
            refine wp_block ?_
            refine wp_seq_k (fun K211 hK211 => ?_)
            refine wp_region_lit ?_
            refine qv 0 (.int .i64 0) F208 rfl (rn_assign rfl) fun _ F213 => ?_; clear F208
            refine wpList_nil ?_
            refine hK211 _ _ ?_
            clear hK211
            refine wp_seq_k (fun K214 hK214 => ?_)
            refine wp_seq_k (fun K215 hK215 => ?_)
            refine wp_region_lit ?_
            refine qv 0 (.slice A157 64 c158) F213 rfl (rn_move (F213.get rfl)) fun _ F217 => ?_; clear F213
            refine qv 1 (.int .i64 (k : Nat)) F217 rfl (rn_move (F217.get rfl)) fun _ F219 => ?_; clear F217
            obtain ⟨b220, o221, hA222, -⟩ := Fl.at hf191 (by omega)
            refine qv 2 (.pointer (some ⟨b220, o221 + k, none⟩)) F219 rfl (rn_index1 Tryd.underlying44 inf4 ((F219.get rfl).trans (by rw [hA222])) (F219.get rfl) (by omega : (0 : Int) ≤ (k : Nat)) (by omega : ((k : Nat) : Int) < ((64 : Nat) : Int))) fun _ F224 => ?_; clear F219
            refine qv 3 (.bool ((bitsL (treeD (pubsL sd ((many : Int).toNat))) (idx : Int).toNat msg).getD k false)) F224 rfl (rn_load (isAgg_no Tryd.underlying4 rfl) (F224.get rfl) (Fl.cellAt hf191 hA222 (boolVals_at (i := k) (by have := (bitsL_len (treeD (pubsL sd ((many : Int).toNat))) (idx : Int).toNat msg); omega)))) fun _ F226 => ?_; clear F224
            refine wpList_nil ?_
            refine hK215 _ _ ?_
            clear hK215
            have F227 := ((((((((((((((((F226.nil.c F226 46 rfl).c F226 12 rfl).c F226 40 rfl).c F226 11 rfl).c F226 10 rfl).c F226 9 rfl).c F226 8 rfl).c F226 28 rfl).c F226 19 rfl).c F226 15 rfl).c F226 7 rfl).c F226 6 rfl).c F226 3 rfl).c F226 2 rfl).c F226 1 rfl).c F226 0 rfl)
            clear F226
            rcases Bool.eq_false_or_eq_true ((bitsL (treeD (pubsL sd ((many : Int).toNat))) (idx : Int).toNat msg).getD k false) with hc228 | hc228
            · skip
              refine wp_cond_true (c_true F227 rfl hc228) ?_
              refine wp_region_lit ?_
              refine qv 0 (.int .i64 1) F227 rfl (rn_assign rfl) fun _ F230 => ?_; clear F227
              refine wpList_nil ?_
              refine hK214 _ _ ?_
              clear hK214
              refine wp_seq_k (fun K231 hK231 => ?_)
              have hx233 : ∃ W, w179.drew = W ∧ Ext w179 W := ⟨_, rfl, (Ext.refl _).drew⟩
              obtain ⟨w232, e234, hx233⟩ := hx233
              have z235 := hx233.size
              refine any_start (fun W => Ext w232 W ∧ Blk W g129 30 [(.int .i64 idx), (.slice Ao no co), (.slice Ac nc cc), (.slice none 0 0)] ∧ Blk W g2 24 [(.slice A sd.length c), (.int .i64 many), (.int .i64 used)]) (fun i => i == 8 || i == 10) 11 #[false, false, false, false, false, false, false, false, false, false, false] rfl rfl rfl ?_
              rw [e234]; clear e234
              refine qp 0 (.pointer (some ⟨g129, 1, none⟩)) F230 rfl rfl (fun W => (rn_field Tryd.underlying30 rfl (by kernel_rfl) (F230.get rfl) rfl)) fun _ F237 => ?_; clear F230
              have b239 := (b187.ext hx233)
              have b240 := (b185.ext hx233)
              have hS238 : Ext w232 w232 ∧ Blk w232 g129 30 [(.int .i64 idx), (.slice Ao no co), (.slice Ac nc cc), (.slice none 0 0)] ∧ Blk w232 g2 24 [(.slice A sd.length c), (.int .i64 many), (.int .i64 used)] := ⟨(Ext.refl w232), b239, b240⟩
              refine qs 1 (.slice Ao no co) F237 rfl rfl hS238 (fun W hW => (rn_load (isAgg_no Tryd.underlying28 rfl) (F237.get rfl) (hW.2.1.rule.1 1))) fun _ F242 => ?_; clear F237
              refine anyt_val (i := 2) (v := (.agg #[(.slice A sd.length c), (.int .i64 many), (.int .i64 used)])) [6, 7, 8, 9, 10] F242 (fun j hj => by simp at hj; first | (subst hj; decide) | (rcases hj with rfl | rfl <;> decide)) (by decide +kernel) (by decide +kernel) rfl rfl rfl rfl (fun _ _ _ _ h => h) rfl hS238 (fun W hW => (rn_loadBlk (F242.get rfl) hW.2.2 Tryd.underlying24 rfl inf24)) ?_
              intro a243 F244; clear F242
              refine qp 3 (.int .i64 idx) F244 rfl rfl (fun W => (rn_move (F244.get rfl))) fun _ F246 => ?_; clear F244
              refine qp 4 (.int .i64 (k : Nat)) F246 rfl rfl (fun W => (rn_move (F246.get rfl))) fun _ F248 => ?_; clear F246
              refine qp 5 (.int .i64 1) F248 rfl rfl (fun W => (rn_move (F248.get rfl))) fun _ F250 => ?_; clear F248
              refine any_one (i := 6) (by decide +kernel) rfl ?_
              have d251 := ((hc.ext hx181).ext hx233)
              refine o_call F250 rfl rfl rfl rfl (rn_call (args4 (F250.get rfl) (F250.get rfl) (F250.get rfl) (F250.get rfl)) rfl (by kernel_rfl)) (rsecret_int (v := (.slice A sd.length c)) (m := sd.length) sd many used idx k true _ d251 rfl (by omega) (by omega) (by omega) (by omega)) ?_
              rintro _ w252 ⟨rfl, hx253⟩
              refine ⟨_, rfl, ?_⟩; intro a254 F255; clear F250; have z256 := hx253.size
              have b257 := (b239.ext hx253)
              have b258 := (b240.ext hx253)
              refine ⟨fun _ _ => ⟨((Ext.refl w232).trans hx253), b257, b258⟩, ?_⟩
              refine any_one (i := 7) (by decide +kernel) rfl ?_
              have r259 := (own_ext (own_ext r188 hx233) hx253)
              have hf260 := r259
              have r261 := (own_ext (own_ext r189 hx233) hx253)
              have hf262 := r261
              refine o_new (fun g => (.slice (some ⟨g, 0, none⟩) 1 1)) (byteVals ((secretD sd (idx : Int).toNat k true))) 37 F255 rfl rfl rfl rfl (rn_buildSlice (parts1 (F255.get rfl)) (build_wholeE (vs := [(.agg (byteVals (secretD sd (idx : Int).toNat k true)).toArray)]) El28 rfl rfl (fun v hv => by rw [List.mem_singleton.1 hv]; exact (byteVals_len (secretD_len _ _ _ _))) (by decide) (by decide) (by simp [Value.cells, byteVals]))) ?_
              intro g263 w264 a269 F270 z267 z268 b265 hx266; clear F255
              have nb271 := own_new (g := g263) hf260 (by omega)
              have nb272 := own_new (g := g263) hf262 (by omega)
              have b273 := (b257.ext hx266)
              have b274 := (b258.ext hx266)
              refine ⟨fun _ _ => ⟨(((Ext.refl w232).trans hx253).trans hx266), b273, b274⟩, ?_⟩
              refine any_one (i := 8) (by decide +kernel) rfl ?_
              have r275 := (own_ext r259 hx266)
              have hf284 := r275
              have nb285 : some g263 ≠ (Value.slice Ao no co).ownBlock := nb271
              have z286 := b265.lt
              have r287 := (own_ext r261 hx266)
              have hf288 := r287
              have ap289 : Apart (.slice Ac nc cc) (.slice Ao no co) := (Apart.symm hf192)
              refine o_appB (zs := digVals (lo ++ ([secretD sd (idx : Int).toNat k true]))) El28 F270 rfl rfl rfl rfl rfl (F270.get rfl) (F270.get rfl) hf284 (Fl.cel (Fl.digblk (S := fun b => b = g263) b265 (All32.sing (secretD_len _ _ _ _)) (by simp [digVals, byteVals]))).2.2 (by omega) (by omega) (by omega) (digVals_app _ _) ?_
              intro A276 c277 w278 a290 F291 r279 hg280 z281 z282 hnb283; clear F270; have z292 := hg280.size
              have nb293 := hnb283 g263 (by omega) nb285
              have ap294 := Apart.app hf288 ap289 hnb283
              refine ⟨fun h => absurd h (by decide), ?_⟩
              refine qp 9 (.pointer (some ⟨g129, 1, none⟩)) F291 rfl rfl (fun W => (rn_field Tryd.underlying30 rfl (by kernel_rfl) (F291.get rfl) rfl)) fun _ F296 => ?_; clear F291
              refine any_one (i := 10) (by decide +kernel) rfl ?_
              have b300 := (grown_blk hf284 hg280 b273 (by decide))
              refine o_store1 (new := [(.int .i64 idx), (.slice A276 (no + 1) c277), (.slice Ac nc cc), (.slice none 0 0)]) F296 rfl rfl rfl rfl (F296.get rfl) (F296.get rfl) b300 inf28 (by simp) rfl rfl ?_
              intro w297 b298 hg299; have z301 := hg299.size
              refine ⟨fun h => absurd h (by decide), ?_⟩
              refine any_nil (by decide +kernel) ?_
              refine hK231 _ _ ?_
              clear hK231
              have F302 := ((((((((((((((((F296.nil.c F296 46 rfl).c F296 12 rfl).c F296 40 rfl).c F296 11 rfl).c F296 10 rfl).c F296 9 rfl).c F296 8 rfl).c F296 28 rfl).c F296 19 rfl).c F296 15 rfl).c F296 7 rfl).c F296 6 rfl).c F296 3 rfl).c F296 2 rfl).c F296 1 rfl).c F296 0 rfl)
              clear F296
              have hx304 : ∃ W, w297.drew = W ∧ Ext w297 W := ⟨_, rfl, (Ext.refl _).drew⟩
              obtain ⟨w303, e305, hx304⟩ := hx304
              have z306 := hx304.size
              refine any_start (fun W => Ext w303 W ∧ Blk W g129 30 [(.int .i64 idx), (.slice A276 (no + 1) c277), (.slice Ac nc cc), (.slice none 0 0)] ∧ Blk W g2 24 [(.slice A sd.length c), (.int .i64 many), (.int .i64 used)]) (fun i => i == 10 || i == 12) 13 #[false, false, false, false, false, false, false, false, false, false, false, false, false] rfl rfl rfl ?_
              rw [e305]; clear e305
              refine qp 0 (.pointer (some ⟨g129, 2, none⟩)) F302 rfl rfl (fun W => (rn_field Tryd.underlying30 rfl (by kernel_rfl) (F302.get rfl) rfl)) fun _ F308 => ?_; clear F302
              have b310 := (b298.ext hx304)
              have b311 := (((grown_blk hf284 hg280 b274 (by decide)).grownN hg299 (by omega)).ext hx304)
              have hS309 : Ext w303 w303 ∧ Blk w303 g129 30 [(.int .i64 idx), (.slice A276 (no + 1) c277), (.slice Ac nc cc), (.slice none 0 0)] ∧ Blk w303 g2 24 [(.slice A sd.length c), (.int .i64 many), (.int .i64 used)] := ⟨(Ext.refl w303), b310, b311⟩
              refine qs 1 (.slice Ac nc cc) F308 rfl rfl hS309 (fun W hW => (rn_load (isAgg_no Tryd.underlying28 rfl) (F308.get rfl) (hW.2.1.rule.1 2))) fun _ F313 => ?_; clear F308
              refine anyt_val (i := 2) (v := (.agg #[(.slice A sd.length c), (.int .i64 many), (.int .i64 used)])) [7, 8, 9, 10, 11, 12] F313 (fun j hj => by simp at hj; first | (subst hj; decide) | (rcases hj with rfl | rfl <;> decide)) (by decide +kernel) (by decide +kernel) rfl rfl rfl rfl (fun _ _ _ _ h => h) rfl hS309 (fun W hW => (rn_loadBlk (F313.get rfl) hW.2.2 Tryd.underlying24 rfl inf24)) ?_
              intro a314 F315; clear F313
              refine qp 3 (.int .i64 idx) F315 rfl rfl (fun W => (rn_move (F315.get rfl))) fun _ F317 => ?_; clear F315
              refine qp 4 (.int .i64 (k : Nat)) F317 rfl rfl (fun W => (rn_move (F317.get rfl))) fun _ F319 => ?_; clear F317
              refine qp 5 (.int .i64 1) F319 rfl rfl (fun W => (rn_move (F319.get rfl))) fun _ F321 => ?_; clear F319
              refine qp 6 (.int .i64 0) F321 rfl rfl (fun W => (rn_sub rfl (F321.get rfl) (by omega) (by omega))) fun _ F323 => ?_; clear F321
              refine any_one (i := 7) (by decide +kernel) rfl ?_
              have d324 := (hc.pres (((Pres.row (((((Pres.refl w).ext hx181).ext hx233).ext hx253).ext hx266) hg280 hf284 (fun b hb h => by simp only [Clip] at h; omega)).grownN hg299 (fun h => by simp only [Clip] at h; omega)).ext hx304))
              refine o_call F323 rfl rfl rfl rfl (rn_call (args4 (F323.get rfl) (F323.get rfl) (F323.get rfl) (F323.get rfl)) rfl (by kernel_rfl)) (rsecret_int (v := (.slice A sd.length c)) (m := sd.length) sd many used idx k false _ d324 rfl (by omega) (by omega) (by omega) (by omega)) ?_
              rintro _ w325 ⟨rfl, hx326⟩
              refine ⟨_, rfl, ?_⟩; intro a327 F328; clear F323; have z329 := hx326.size
              have b330 := (b310.ext hx326)
              have b331 := (b311.ext hx326)
              refine ⟨fun _ _ => ⟨((Ext.refl w303).trans hx326), b330, b331⟩, ?_⟩
              refine any_one (i := 8) (by decide +kernel) rfl ?_
              refine o_call F328 rfl rfl rfl rfl (rn_call (args1 (F328.get rfl)) rfl (by kernel_rfl)) (rhash_any (secretD sd (idx : Int).toNat k false) _ (secretD_len _ _ _ _)) ?_
              rintro _ w332 ⟨rfl, hx333⟩
              refine ⟨_, rfl, ?_⟩; intro a334 F335; clear F328; have z336 := hx333.size
              have b337 := (b330.ext hx333)
              have b338 := (b331.ext hx333)
              refine ⟨fun _ _ => ⟨(((Ext.refl w303).trans hx326).trans hx333), b337, b338⟩, ?_⟩
              refine any_one (i := 9) (by decide +kernel) rfl ?_
              have r339 := (own_ext (own_ext (own_ext (own_grownT r279 b300 hg299 (by decide)) hx304) hx326) hx333)
              have hf340 := r339
              have r341 := (own_ext (own_ext (own_ext (own_grownT (own_grownR r287 hg280 ap289) b300 hg299 (by decide)) hx304) hx326) hx333)
              have hf342 := r341
              refine o_new (fun g => (.slice (some ⟨g, 0, none⟩) 1 1)) (byteVals ((openD (secretD sd (idx : Int).toNat k false)))) 37 F335 rfl rfl rfl rfl (rn_buildSlice (parts1 (F335.get rfl)) (build_wholeE (vs := [(.agg (byteVals (openD (secretD sd (idx : Int).toNat k false))).toArray)]) El28 rfl rfl (fun v hv => by rw [List.mem_singleton.1 hv]; exact (byteVals_len (openD_len _))) (by decide) (by decide) (by simp [Value.cells, byteVals]))) ?_
              intro g343 w344 a349 F350 z347 z348 b345 hx346; clear F335
              have nb351 := own_new (g := g343) hf340 (by omega)
              have nb352 := own_new (g := g343) hf342 (by omega)
              have b353 := (b337.ext hx346)
              have b354 := (b338.ext hx346)
              refine ⟨fun _ _ => ⟨((((Ext.refl w303).trans hx326).trans hx333).trans hx346), b353, b354⟩, ?_⟩
              refine any_one (i := 10) (by decide +kernel) rfl ?_
              have r355 := (own_ext r341 hx346)
              have hf364 := r355
              have b365 := ((((((b265.grown hg280 nb285).grownN hg299 (by omega)).ext hx304).ext hx326).ext hx333).ext hx346)
              have nb366 : some g263 ≠ (Value.slice Ac nc cc).ownBlock := nb272
              have z367 := b365.lt
              have nb368 : some g343 ≠ (Value.slice Ac nc cc).ownBlock := nb352
              have z369 := b345.lt
              have r370 := (own_ext r339 hx346)
              have hf371 := r370
              have ap372 : Apart (.slice A276 (no + 1) c277) (.slice Ac nc cc) := (Apart.symm ap294)
              refine o_appB (zs := digVals (lc ++ ([openD (secretD sd (idx : Int).toNat k false)]))) El28 F350 rfl rfl rfl rfl rfl (F350.get rfl) (F350.get rfl) hf364 (Fl.cel (Fl.digblk (S := fun b => b = g343) b345 (All32.sing (openD_len _)) (by simp [digVals, byteVals]))).2.2 (by omega) (by omega) (by omega) (digVals_app _ _) ?_
              intro A356 c357 w358 a373 F374 r359 hg360 z361 z362 hnb363; clear F350; have z375 := hg360.size
              have nb376 := hnb363 g263 (by omega) nb366
              have nb377 := hnb363 g343 (by omega) nb368
              have ap378 := Apart.app hf371 ap372 hnb363
              refine ⟨fun h => absurd h (by decide), ?_⟩
              refine qp 11 (.pointer (some ⟨g129, 2, none⟩)) F374 rfl rfl (fun W => (rn_field Tryd.underlying30 rfl (by kernel_rfl) (F374.get rfl) rfl)) fun _ F380 => ?_; clear F374
              refine any_one (i := 12) (by decide +kernel) rfl ?_
              have b384 := (grown_blk hf364 hg360 b353 (by decide))
              refine o_store1 (new := [(.int .i64 idx), (.slice A276 (no + 1) c277), (.slice A356 (nc + 1) c357), (.slice none 0 0)]) F380 rfl rfl rfl rfl (F380.get rfl) (F380.get rfl) b384 inf28 (by simp) rfl rfl ?_
              intro w381 b382 hg383; have z385 := hg383.size
              refine ⟨fun h => absurd h (by decide), ?_⟩
              refine any_nil (by decide +kernel) ?_
              refine hK210 _ _ ?_
              clear hK210
              have F386 := ((((((((((((((((F380.nil.c F380 46 rfl).c F380 12 rfl).c F380 40 rfl).c F380 11 rfl).c F380 10 rfl).c F380 9 rfl).c F380 8 rfl).c F380 28 rfl).c F380 19 rfl).c F380 15 rfl).c F380 7 rfl).c F380 6 rfl).c F380 3 rfl).c F380 2 rfl).c F380 1 rfl).c F380 0 rfl)
              clear F380
              refine wp_region_lit ?_
              refine qv 0 (.int .i64 (k : Nat)) F386 rfl (rn_move (F386.get rfl)) fun _ F388 => ?_; clear F386
              refine qv 1 (.int .i64 (k + 1 : Nat)) F388 rfl (rn_addN (a := k) (b := 1) (F388.get rfl) rfl (by omega)) fun _ F390 => ?_; clear F388
              refine qv 2 (.int .i64 (k + 1 : Nat)) F390 rfl (rn_assign (F390.get rfl)) fun _ F392 => ?_; clear F390
              refine wpList_nil ?_
              have d393 := (hf190.pres ((Pres.row ((((((Pres.row ((((Pres.refl w179).ext hx233).ext hx253).ext hx266) hg280 hf284 (fun b hb h => by simp only [Clip] at h; omega)).grownN hg299 (fun h => by simp only [Clip] at h; omega)).ext hx304).ext hx326).ext hx333).ext hx346) hg360 hf364 (fun b hb h => by simp only [Clip] at h; omega)).grownN hg383 (fun h => by simp only [Clip] at h; omega)))
              have d394 := (hf191.pres ((Pres.row ((((((Pres.row ((((Pres.refl w179).ext hx233).ext hx253).ext hx266) hg280 hf284 (fun b hb h => by simp only [Clip] at h; omega)).grownN hg299 (fun h => by simp only [Clip] at h; omega)).ext hx304).ext hx326).ext hx333).ext hx346) hg360 hf364 (fun b hb h => by simp only [Clip] at h; omega)).grownN hg383 (fun h => by simp only [Clip] at h; omega)))
              have b395 := ((grown_blk hf364 hg360 b354 (by decide)).grownN hg383 (by omega))
              have b396 := ((grown_blk hf364 hg360 ((((((grown_blk hf284 hg280 (((b186.ext hx233).ext hx253).ext hx266) (by decide)).grownN hg299 (by omega)).ext hx304).ext hx326).ext hx333).ext hx346) (by decide)).grownN hg383 (by omega))
              have r397 := (own_grownT (own_grownR r370 hg360 ap372) b384 hg383 (by decide))
              have r398 := (own_grownT r359 b384 hg383 (by decide))
              refine ⟨⟨(k + 1), A276, no + 1, c277, lo ++ ([secretD sd (idx : Int).toNat k true]), A356, nc + 1, c357, lc ++ ([openD (secretD sd (idx : Int).toNat k false)]), (((((((((((((F392.nil.cons (q_get F392 (t := 11) rfl (by first | rfl | (congr 1; omega) | (congr 1; done)))).cons (q_get F392 (t := 10) rfl rfl)).cons (q_get F392 (t := 9) rfl rfl)).cons (q_get F392 (t := 8) rfl rfl)).cons (q_get F392 (t := 28) rfl rfl)).cons (q_get F392 (t := 19) rfl rfl)).cons (q_get F392 (t := 15) rfl rfl)).cons (q_get F392 (t := 7) rfl rfl)).cons (q_get F392 (t := 6) rfl rfl)).cons (q_get F392 (t := 3) rfl rfl)).cons (q_get F392 (t := 2) rfl rfl)).cons (q_get F392 (t := 1) rfl rfl)).cons (q_get F392 (t := 0) rfl rfl)), ⟨by omega, by omega, by omega⟩, (opTo_step' hp183 hc228), (clTo_step' hp184 hc228 rfl), ((ext_row ((((((ext_row (((((Ext.refl w).trans hx181).trans hx233).trans hx253).trans hx266) hg280 hf284 (by omega)).grownN hg299 (by omega)).trans hx304).trans hx326).trans hx333).trans hx346) hg360 hf364 (by omega)).grownN hg383 (by omega)), b395, b396, b382, r397, r398, d393, d394, ap378, (by omega), (by omega), (by omega)⟩, ?_⟩
              rw [F392.get (t := 11) rfl, hL196.get (t := 11) rfl]; simp [intOf] <;> omega
            · skip
              refine wp_cond_false (c_false F227 rfl hc228) ?_
              refine wp_skip ?_
              refine hK214 _ _ ?_
              clear hK214
              refine wp_seq_k (fun K399 hK399 => ?_)
              have hx401 : ∃ W, w179.drew = W ∧ Ext w179 W := ⟨_, rfl, (Ext.refl _).drew⟩
              obtain ⟨w400, e402, hx401⟩ := hx401
              have z403 := hx401.size
              refine any_start (fun W => Ext w400 W ∧ Blk W g129 30 [(.int .i64 idx), (.slice Ao no co), (.slice Ac nc cc), (.slice none 0 0)] ∧ Blk W g2 24 [(.slice A sd.length c), (.int .i64 many), (.int .i64 used)]) (fun i => i == 8 || i == 10) 11 #[false, false, false, false, false, false, false, false, false, false, false] rfl rfl rfl ?_
              rw [e402]; clear e402
              refine qp 0 (.pointer (some ⟨g129, 1, none⟩)) F227 rfl rfl (fun W => (rn_field Tryd.underlying30 rfl (by kernel_rfl) (F227.get rfl) rfl)) fun _ F405 => ?_; clear F227
              have b407 := (b187.ext hx401)
              have b408 := (b185.ext hx401)
              have hS406 : Ext w400 w400 ∧ Blk w400 g129 30 [(.int .i64 idx), (.slice Ao no co), (.slice Ac nc cc), (.slice none 0 0)] ∧ Blk w400 g2 24 [(.slice A sd.length c), (.int .i64 many), (.int .i64 used)] := ⟨(Ext.refl w400), b407, b408⟩
              refine qs 1 (.slice Ao no co) F405 rfl rfl hS406 (fun W hW => (rn_load (isAgg_no Tryd.underlying28 rfl) (F405.get rfl) (hW.2.1.rule.1 1))) fun _ F410 => ?_; clear F405
              refine anyt_val (i := 2) (v := (.agg #[(.slice A sd.length c), (.int .i64 many), (.int .i64 used)])) [6, 7, 8, 9, 10] F410 (fun j hj => by simp at hj; first | (subst hj; decide) | (rcases hj with rfl | rfl <;> decide)) (by decide +kernel) (by decide +kernel) rfl rfl rfl rfl (fun _ _ _ _ h => h) rfl hS406 (fun W hW => (rn_loadBlk (F410.get rfl) hW.2.2 Tryd.underlying24 rfl inf24)) ?_
              intro a411 F412; clear F410
              refine qp 3 (.int .i64 idx) F412 rfl rfl (fun W => (rn_move (F412.get rfl))) fun _ F414 => ?_; clear F412
              refine qp 4 (.int .i64 (k : Nat)) F414 rfl rfl (fun W => (rn_move (F414.get rfl))) fun _ F416 => ?_; clear F414
              refine qp 5 (.int .i64 0) F416 rfl rfl (fun W => (rn_move (F416.get rfl))) fun _ F418 => ?_; clear F416
              refine any_one (i := 6) (by decide +kernel) rfl ?_
              have d419 := ((hc.ext hx181).ext hx401)
              refine o_call F418 rfl rfl rfl rfl (rn_call (args4 (F418.get rfl) (F418.get rfl) (F418.get rfl) (F418.get rfl)) rfl (by kernel_rfl)) (rsecret_int (v := (.slice A sd.length c)) (m := sd.length) sd many used idx k false _ d419 rfl (by omega) (by omega) (by omega) (by omega)) ?_
              rintro _ w420 ⟨rfl, hx421⟩
              refine ⟨_, rfl, ?_⟩; intro a422 F423; clear F418; have z424 := hx421.size
              have b425 := (b407.ext hx421)
              have b426 := (b408.ext hx421)
              refine ⟨fun _ _ => ⟨((Ext.refl w400).trans hx421), b425, b426⟩, ?_⟩
              refine any_one (i := 7) (by decide +kernel) rfl ?_
              have r427 := (own_ext (own_ext r188 hx401) hx421)
              have hf428 := r427
              have r429 := (own_ext (own_ext r189 hx401) hx421)
              have hf430 := r429
              refine o_new (fun g => (.slice (some ⟨g, 0, none⟩) 1 1)) (byteVals ((secretD sd (idx : Int).toNat k false))) 37 F423 rfl rfl rfl rfl (rn_buildSlice (parts1 (F423.get rfl)) (build_wholeE (vs := [(.agg (byteVals (secretD sd (idx : Int).toNat k false)).toArray)]) El28 rfl rfl (fun v hv => by rw [List.mem_singleton.1 hv]; exact (byteVals_len (secretD_len _ _ _ _))) (by decide) (by decide) (by simp [Value.cells, byteVals]))) ?_
              intro g431 w432 a437 F438 z435 z436 b433 hx434; clear F423
              have nb439 := own_new (g := g431) hf428 (by omega)
              have nb440 := own_new (g := g431) hf430 (by omega)
              have b441 := (b425.ext hx434)
              have b442 := (b426.ext hx434)
              refine ⟨fun _ _ => ⟨(((Ext.refl w400).trans hx421).trans hx434), b441, b442⟩, ?_⟩
              refine any_one (i := 8) (by decide +kernel) rfl ?_
              have r443 := (own_ext r427 hx434)
              have hf452 := r443
              have nb453 : some g431 ≠ (Value.slice Ao no co).ownBlock := nb439
              have z454 := b433.lt
              have r455 := (own_ext r429 hx434)
              have hf456 := r455
              have ap457 : Apart (.slice Ac nc cc) (.slice Ao no co) := (Apart.symm hf192)
              refine o_appB (zs := digVals (lo ++ ([secretD sd (idx : Int).toNat k false]))) El28 F438 rfl rfl rfl rfl rfl (F438.get rfl) (F438.get rfl) hf452 (Fl.cel (Fl.digblk (S := fun b => b = g431) b433 (All32.sing (secretD_len _ _ _ _)) (by simp [digVals, byteVals]))).2.2 (by omega) (by omega) (by omega) (digVals_app _ _) ?_
              intro A444 c445 w446 a458 F459 r447 hg448 z449 z450 hnb451; clear F438; have z460 := hg448.size
              have nb461 := hnb451 g431 (by omega) nb453
              have ap462 := Apart.app hf456 ap457 hnb451
              refine ⟨fun h => absurd h (by decide), ?_⟩
              refine qp 9 (.pointer (some ⟨g129, 1, none⟩)) F459 rfl rfl (fun W => (rn_field Tryd.underlying30 rfl (by kernel_rfl) (F459.get rfl) rfl)) fun _ F464 => ?_; clear F459
              refine any_one (i := 10) (by decide +kernel) rfl ?_
              have b468 := (grown_blk hf452 hg448 b441 (by decide))
              refine o_store1 (new := [(.int .i64 idx), (.slice A444 (no + 1) c445), (.slice Ac nc cc), (.slice none 0 0)]) F464 rfl rfl rfl rfl (F464.get rfl) (F464.get rfl) b468 inf28 (by simp) rfl rfl ?_
              intro w465 b466 hg467; have z469 := hg467.size
              refine ⟨fun h => absurd h (by decide), ?_⟩
              refine any_nil (by decide +kernel) ?_
              refine hK399 _ _ ?_
              clear hK399
              have F470 := ((((((((((((((((F464.nil.c F464 46 rfl).c F464 12 rfl).c F464 40 rfl).c F464 11 rfl).c F464 10 rfl).c F464 9 rfl).c F464 8 rfl).c F464 28 rfl).c F464 19 rfl).c F464 15 rfl).c F464 7 rfl).c F464 6 rfl).c F464 3 rfl).c F464 2 rfl).c F464 1 rfl).c F464 0 rfl)
              clear F464
              have hx472 : ∃ W, w465.drew = W ∧ Ext w465 W := ⟨_, rfl, (Ext.refl _).drew⟩
              obtain ⟨w471, e473, hx472⟩ := hx472
              have z474 := hx472.size
              refine any_start (fun W => Ext w471 W ∧ Blk W g129 30 [(.int .i64 idx), (.slice A444 (no + 1) c445), (.slice Ac nc cc), (.slice none 0 0)] ∧ Blk W g2 24 [(.slice A sd.length c), (.int .i64 many), (.int .i64 used)]) (fun i => i == 10 || i == 12) 13 #[false, false, false, false, false, false, false, false, false, false, false, false, false] rfl rfl rfl ?_
              rw [e473]; clear e473
              refine qp 0 (.pointer (some ⟨g129, 2, none⟩)) F470 rfl rfl (fun W => (rn_field Tryd.underlying30 rfl (by kernel_rfl) (F470.get rfl) rfl)) fun _ F476 => ?_; clear F470
              have b478 := (b466.ext hx472)
              have b479 := (((grown_blk hf452 hg448 b442 (by decide)).grownN hg467 (by omega)).ext hx472)
              have hS477 : Ext w471 w471 ∧ Blk w471 g129 30 [(.int .i64 idx), (.slice A444 (no + 1) c445), (.slice Ac nc cc), (.slice none 0 0)] ∧ Blk w471 g2 24 [(.slice A sd.length c), (.int .i64 many), (.int .i64 used)] := ⟨(Ext.refl w471), b478, b479⟩
              refine qs 1 (.slice Ac nc cc) F476 rfl rfl hS477 (fun W hW => (rn_load (isAgg_no Tryd.underlying28 rfl) (F476.get rfl) (hW.2.1.rule.1 2))) fun _ F481 => ?_; clear F476
              refine anyt_val (i := 2) (v := (.agg #[(.slice A sd.length c), (.int .i64 many), (.int .i64 used)])) [7, 8, 9, 10, 11, 12] F481 (fun j hj => by simp at hj; first | (subst hj; decide) | (rcases hj with rfl | rfl <;> decide)) (by decide +kernel) (by decide +kernel) rfl rfl rfl rfl (fun _ _ _ _ h => h) rfl hS477 (fun W hW => (rn_loadBlk (F481.get rfl) hW.2.2 Tryd.underlying24 rfl inf24)) ?_
              intro a482 F483; clear F481
              refine qp 3 (.int .i64 idx) F483 rfl rfl (fun W => (rn_move (F483.get rfl))) fun _ F485 => ?_; clear F483
              refine qp 4 (.int .i64 (k : Nat)) F485 rfl rfl (fun W => (rn_move (F485.get rfl))) fun _ F487 => ?_; clear F485
              refine qp 5 (.int .i64 0) F487 rfl rfl (fun W => (rn_move (F487.get rfl))) fun _ F489 => ?_; clear F487
              refine qp 6 (.int .i64 1) F489 rfl rfl (fun W => (rn_sub rfl (F489.get rfl) (by omega) (by omega))) fun _ F491 => ?_; clear F489
              refine any_one (i := 7) (by decide +kernel) rfl ?_
              have d492 := (hc.pres (((Pres.row (((((Pres.refl w).ext hx181).ext hx401).ext hx421).ext hx434) hg448 hf452 (fun b hb h => by simp only [Clip] at h; omega)).grownN hg467 (fun h => by simp only [Clip] at h; omega)).ext hx472))
              refine o_call F491 rfl rfl rfl rfl (rn_call (args4 (F491.get rfl) (F491.get rfl) (F491.get rfl) (F491.get rfl)) rfl (by kernel_rfl)) (rsecret_int (v := (.slice A sd.length c)) (m := sd.length) sd many used idx k true _ d492 rfl (by omega) (by omega) (by omega) (by omega)) ?_
              rintro _ w493 ⟨rfl, hx494⟩
              refine ⟨_, rfl, ?_⟩; intro a495 F496; clear F491; have z497 := hx494.size
              have b498 := (b478.ext hx494)
              have b499 := (b479.ext hx494)
              refine ⟨fun _ _ => ⟨((Ext.refl w471).trans hx494), b498, b499⟩, ?_⟩
              refine any_one (i := 8) (by decide +kernel) rfl ?_
              refine o_call F496 rfl rfl rfl rfl (rn_call (args1 (F496.get rfl)) rfl (by kernel_rfl)) (rhash_any (secretD sd (idx : Int).toNat k true) _ (secretD_len _ _ _ _)) ?_
              rintro _ w500 ⟨rfl, hx501⟩
              refine ⟨_, rfl, ?_⟩; intro a502 F503; clear F496; have z504 := hx501.size
              have b505 := (b498.ext hx501)
              have b506 := (b499.ext hx501)
              refine ⟨fun _ _ => ⟨(((Ext.refl w471).trans hx494).trans hx501), b505, b506⟩, ?_⟩
              refine any_one (i := 9) (by decide +kernel) rfl ?_
              have r507 := (own_ext (own_ext (own_ext (own_grownT r447 b468 hg467 (by decide)) hx472) hx494) hx501)
              have hf508 := r507
              have r509 := (own_ext (own_ext (own_ext (own_grownT (own_grownR r455 hg448 ap457) b468 hg467 (by decide)) hx472) hx494) hx501)
              have hf510 := r509
              refine o_new (fun g => (.slice (some ⟨g, 0, none⟩) 1 1)) (byteVals ((openD (secretD sd (idx : Int).toNat k true)))) 37 F503 rfl rfl rfl rfl (rn_buildSlice (parts1 (F503.get rfl)) (build_wholeE (vs := [(.agg (byteVals (openD (secretD sd (idx : Int).toNat k true))).toArray)]) El28 rfl rfl (fun v hv => by rw [List.mem_singleton.1 hv]; exact (byteVals_len (openD_len _))) (by decide) (by decide) (by simp [Value.cells, byteVals]))) ?_
              intro g511 w512 a517 F518 z515 z516 b513 hx514; clear F503
              have nb519 := own_new (g := g511) hf508 (by omega)
              have nb520 := own_new (g := g511) hf510 (by omega)
              have b521 := (b505.ext hx514)
              have b522 := (b506.ext hx514)
              refine ⟨fun _ _ => ⟨((((Ext.refl w471).trans hx494).trans hx501).trans hx514), b521, b522⟩, ?_⟩
              refine any_one (i := 10) (by decide +kernel) rfl ?_
              have r523 := (own_ext r509 hx514)
              have hf532 := r523
              have b533 := ((((((b433.grown hg448 nb453).grownN hg467 (by omega)).ext hx472).ext hx494).ext hx501).ext hx514)
              have nb534 : some g431 ≠ (Value.slice Ac nc cc).ownBlock := nb440
              have z535 := b533.lt
              have nb536 : some g511 ≠ (Value.slice Ac nc cc).ownBlock := nb520
              have z537 := b513.lt
              have r538 := (own_ext r507 hx514)
              have hf539 := r538
              have ap540 : Apart (.slice A444 (no + 1) c445) (.slice Ac nc cc) := (Apart.symm ap462)
              refine o_appB (zs := digVals (lc ++ ([openD (secretD sd (idx : Int).toNat k true)]))) El28 F518 rfl rfl rfl rfl rfl (F518.get rfl) (F518.get rfl) hf532 (Fl.cel (Fl.digblk (S := fun b => b = g511) b513 (All32.sing (openD_len _)) (by simp [digVals, byteVals]))).2.2 (by omega) (by omega) (by omega) (digVals_app _ _) ?_
              intro A524 c525 w526 a541 F542 r527 hg528 z529 z530 hnb531; clear F518; have z543 := hg528.size
              have nb544 := hnb531 g431 (by omega) nb534
              have nb545 := hnb531 g511 (by omega) nb536
              have ap546 := Apart.app hf539 ap540 hnb531
              refine ⟨fun h => absurd h (by decide), ?_⟩
              refine qp 11 (.pointer (some ⟨g129, 2, none⟩)) F542 rfl rfl (fun W => (rn_field Tryd.underlying30 rfl (by kernel_rfl) (F542.get rfl) rfl)) fun _ F548 => ?_; clear F542
              refine any_one (i := 12) (by decide +kernel) rfl ?_
              have b552 := (grown_blk hf532 hg528 b521 (by decide))
              refine o_store1 (new := [(.int .i64 idx), (.slice A444 (no + 1) c445), (.slice A524 (nc + 1) c525), (.slice none 0 0)]) F548 rfl rfl rfl rfl (F548.get rfl) (F548.get rfl) b552 inf28 (by simp) rfl rfl ?_
              intro w549 b550 hg551; have z553 := hg551.size
              refine ⟨fun h => absurd h (by decide), ?_⟩
              refine any_nil (by decide +kernel) ?_
              refine hK210 _ _ ?_
              clear hK210
              have F554 := ((((((((((((((((F548.nil.c F548 46 rfl).c F548 12 rfl).c F548 40 rfl).c F548 11 rfl).c F548 10 rfl).c F548 9 rfl).c F548 8 rfl).c F548 28 rfl).c F548 19 rfl).c F548 15 rfl).c F548 7 rfl).c F548 6 rfl).c F548 3 rfl).c F548 2 rfl).c F548 1 rfl).c F548 0 rfl)
              clear F548
              refine wp_region_lit ?_
              refine qv 0 (.int .i64 (k : Nat)) F554 rfl (rn_move (F554.get rfl)) fun _ F556 => ?_; clear F554
              refine qv 1 (.int .i64 (k + 1 : Nat)) F556 rfl (rn_addN (a := k) (b := 1) (F556.get rfl) rfl (by omega)) fun _ F558 => ?_; clear F556
              refine qv 2 (.int .i64 (k + 1 : Nat)) F558 rfl (rn_assign (F558.get rfl)) fun _ F560 => ?_; clear F558
              refine wpList_nil ?_
              have d561 := (hf190.pres ((Pres.row ((((((Pres.row ((((Pres.refl w179).ext hx401).ext hx421).ext hx434) hg448 hf452 (fun b hb h => by simp only [Clip] at h; omega)).grownN hg467 (fun h => by simp only [Clip] at h; omega)).ext hx472).ext hx494).ext hx501).ext hx514) hg528 hf532 (fun b hb h => by simp only [Clip] at h; omega)).grownN hg551 (fun h => by simp only [Clip] at h; omega)))
              have d562 := (hf191.pres ((Pres.row ((((((Pres.row ((((Pres.refl w179).ext hx401).ext hx421).ext hx434) hg448 hf452 (fun b hb h => by simp only [Clip] at h; omega)).grownN hg467 (fun h => by simp only [Clip] at h; omega)).ext hx472).ext hx494).ext hx501).ext hx514) hg528 hf532 (fun b hb h => by simp only [Clip] at h; omega)).grownN hg551 (fun h => by simp only [Clip] at h; omega)))
              have b563 := ((grown_blk hf532 hg528 b522 (by decide)).grownN hg551 (by omega))
              have b564 := ((grown_blk hf532 hg528 ((((((grown_blk hf452 hg448 (((b186.ext hx401).ext hx421).ext hx434) (by decide)).grownN hg467 (by omega)).ext hx472).ext hx494).ext hx501).ext hx514) (by decide)).grownN hg551 (by omega))
              have r565 := (own_grownT (own_grownR r538 hg528 ap540) b552 hg551 (by decide))
              have r566 := (own_grownT r527 b552 hg551 (by decide))
              refine ⟨⟨(k + 1), A444, no + 1, c445, lo ++ ([secretD sd (idx : Int).toNat k false]), A524, nc + 1, c525, lc ++ ([openD (secretD sd (idx : Int).toNat k true)]), (((((((((((((F560.nil.cons (q_get F560 (t := 11) rfl (by first | rfl | (congr 1; omega) | (congr 1; done)))).cons (q_get F560 (t := 10) rfl rfl)).cons (q_get F560 (t := 9) rfl rfl)).cons (q_get F560 (t := 8) rfl rfl)).cons (q_get F560 (t := 28) rfl rfl)).cons (q_get F560 (t := 19) rfl rfl)).cons (q_get F560 (t := 15) rfl rfl)).cons (q_get F560 (t := 7) rfl rfl)).cons (q_get F560 (t := 6) rfl rfl)).cons (q_get F560 (t := 3) rfl rfl)).cons (q_get F560 (t := 2) rfl rfl)).cons (q_get F560 (t := 1) rfl rfl)).cons (q_get F560 (t := 0) rfl rfl)), ⟨by omega, by omega, by omega⟩, (opTo_step' hp183 hc228), (clTo_step' hp184 hc228 rfl), ((ext_row ((((((ext_row (((((Ext.refl w).trans hx181).trans hx401).trans hx421).trans hx434) hg448 hf452 (by omega)).grownN hg467 (by omega)).trans hx472).trans hx494).trans hx501).trans hx514) hg528 hf532 (by omega)).grownN hg551 (by omega)), b563, b564, b550, r565, r566, d561, d562, ap546, (by omega), (by omega), (by omega)⟩, ?_⟩
              rw [F560.get (t := 11) rfl, hL196.get (t := 11) rfl]; simp [intOf] <;> omega
          · skip
            refine wp_cond_false (c_false F208 rfl (decide_eq_false hc209)) ?_
            refine wp_exit ?_
            refine exit_then ?_
            refine exit_then ?_
            refine exit_here ?_
            refine hK170 _ _ ?_
            clear hK170
            refine wp_seq_k (fun K567 hK567 => ?_)
            refine wp_region_lit ?_
            refine qv 0 (.slice A112 ((many : Int).toNat) c113) F208 rfl (rn_move (F208.get rfl)) fun _ F569 => ?_; clear F208
            refine qv 1 (.int .i64 idx) F569 rfl (rn_move (F569.get rfl)) fun _ F571 => ?_; clear F569
            refine wpl_op (i := 2) rfl (o_call F571 rfl rfl rfl rfl (rn_call (args2 (F571.get rfl) (F571.get rfl)) rfl (by kernel_rfl)) (rPath_at (pubsL sd ((many : Int).toNat)) idx _ (v := (.slice A112 ((many : Int).toNat) c113)) (n := (many : Int).toNat) (pubsL_32 _ _) hf190 (by omega)) ?_)
            rintro _ w579 ⟨A572, n573, c574, rfl, hf575, h32576, hx580⟩
            have z577 := (Fl.cel hf575).2.1
            have z578 := Fl.dlen hf575 h32576
            refine ⟨_, rfl, ?_⟩; intro a581 F582; clear F571; have z583 := hx580.size
            have hf584 : Fl (Clip (fun b => w179.heap.size ≤ b) w579) w579 32 (.slice A572 n573 c574) n573 (digVals ((pathF (pubsL sd ((many : Int).toNat)) idx).1)) := hf575.clip
            refine qv 3 (.tuple #[(.slice A572 n573 c574), (.int .i64 ((pathF (pubsL sd ((many : Int).toNat)) idx).2))]) F582 rfl (rn_move (F582.get rfl)) fun _ F586 => ?_; clear F582
            refine qv 4 (.slice A572 n573 c574) F586 rfl (rn_extract (F586.get rfl) rfl) fun _ F588 => ?_; clear F586
            refine qv 5 (.int .i64 ((pathF (pubsL sd ((many : Int).toNat)) idx).2)) F588 rfl (rn_extract (F588.get rfl) rfl) fun _ F590 => ?_; clear F588
            refine qv 6 (.pointer (some ⟨g129, 3, none⟩)) F590 rfl (rn_field Tryd.underlying30 rfl (by kernel_rfl) (F590.get rfl) rfl) fun _ F592 => ?_; clear F590
            have b596 := (b187.ext hx580)
            refine wpl_op (i := 7) rfl (o_store1 (new := [(.int .i64 idx), (.slice Ao no co), (.slice Ac nc cc), (.slice A572 n573 c574)]) F592 rfl rfl rfl rfl (F592.get rfl) (F592.get rfl) b596 inf28 (by simp) rfl rfl ?_)
            intro w593 b594 hg595; have z597 := hg595.size
            refine wpList_nil ?_
            refine hK567 _ _ ?_
            clear hK567
            have F598 := ((((((((((((((F592.nil.c F592 40 rfl).c F592 11 rfl).c F592 10 rfl).c F592 9 rfl).c F592 8 rfl).c F592 28 rfl).c F592 19 rfl).c F592 15 rfl).c F592 7 rfl).c F592 6 rfl).c F592 3 rfl).c F592 2 rfl).c F592 1 rfl).c F592 0 rfl)
            clear F592
            refine wp_seq_k (fun K599 hK599 => ?_)
            refine wp_region_lit ?_
            refine qv 0 (.agg #[(.int .i64 idx), (.slice Ao no co), (.slice Ac nc cc), (.slice A572 n573 c574)]) F598 rfl (rn_loadBlk (F598.get rfl) b594 Tryd.underlying30 rfl inf30) fun _ F601 => ?_; clear F598
            have b605 := ((b186.ext hx580).grownN hg595 (by omega))
            refine wpl_op (i := 1) rfl (o_store (cells := [(.int .i64 idx), (.slice Ao no co), (.slice Ac nc cc), (.slice A572 n573 c574)]) F601 rfl rfl rfl rfl (F601.get rfl) (F601.get rfl) b605 inf30 rfl (by simp [Value.oneCell']) ?_)
            intro w602 b603 hg604; have z606 := hg604.size
            refine qv 2 (.int .i64 0) F601 rfl (rn_assign rfl) fun _ F608 => ?_; clear F601
            refine wpList_nil ?_
            refine hK599 _ _ ?_
            clear hK599
            refine wp_ret ?_
            refine retC1 F608 rfl rfl rfl b603 Tryd.underlying30 rfl inf30 ?_
            have hk : k = 64 := by omega
            have ho := hp183
            have hcl := hp184
            rw [hk] at ho hcl
            have he := signE4 (idx := idx) (msg := msg) hc33 (by omega) (by omega)
            have hn := signF_yes (idx := idx) (msg := msg) hc33 (by omega) (by omega)
            rw [← ho, ← hcl] at hn
            have r609 := (own_grownT (own_grownT (own_ext r188 hx580) b596 hg595 (by decide)) b605 hg604 (by decide))
            have r610 := (own_grownT (own_grownT (own_ext r189 hx580) b596 hg595 (by decide)) b605 hg604 (by decide))
            have d611 := (hf584.pres (((Pres.refl w579).grownN hg595 (fun h => by simp only [Clip] at h; omega)).grownN hg604 (fun h => by simp only [Clip] at h; omega)))
            exact ⟨_, _, _, _, _, _, _, _, _, by rw [he, hn], by rw [hn]; exact Fl.sub (Fl.own (S := fun b => w161.heap.size ≤ b) r609 (fun b hb => hb) (digVals_one _)) (fun b hb => by first | omega | (simp only [Clip] at hb; omega)), by rw [hn]; exact Fl.sub (Fl.own (S := fun b => w161.heap.size ≤ b) r610 (fun b hb => hb) (digVals_one _)) (fun b hb => by first | omega | (simp only [Clip] at hb; omega)), by rw [hn]; exact Fl.sub d611 (fun b hb => by first | omega | (simp only [Clip] at hb; omega)), (((((Ext.refl w).trans hx181).trans hx580).grownN hg595 (by omega)).grownN hg604 (by omega))⟩
  · skip
    refine wp_cond_true (c_true F32 rfl (not_f hc33)) ?_
    refine wp_seq_k (fun K612 hK612 => ?_)
    refine wp_region_lit ?_
    refine qv 0 (.agg #[(.int .i64 0), (.slice none 0 0), (.slice none 0 0), (.slice none 0 0)]) F32 rfl (rn_build (parts0 ) (by kernel_rfl)) fun _ F614 => ?_; clear F32
    have b618 := (b12.ext hx27)
    refine wpl_op (i := 1) rfl (o_store (cells := [(.int .i64 0), (.slice none 0 0), (.slice none 0 0), (.slice none 0 0)]) F614 rfl rfl rfl rfl (F614.get rfl) (F614.get rfl) b618 inf30 rfl (by simp [Value.oneCell']) ?_)
    intro w615 b616 hg617; have z619 := hg617.size
    refine qv 2 (.int .i64 40) F614 rfl (rn_assign rfl) fun _ F621 => ?_; clear F614
    refine wpList_nil ?_
    refine hK612 _ _ ?_
    clear hK612
    refine wp_ret ?_
    refine ret_then ?_
    refine retC1 F621 rfl rfl rfl b616 Tryd.underlying30 rfl inf30 ?_
    have he : signE sd many used idx msg = 40 := signE1 hc33
    have hn := signF_no he (by decide)
    exact ⟨none, 0, 0, none, 0, 0, none, 0, 0, by rw [he, hn]; rfl, by rw [hn]; exact Fl.nil _, by rw [hn]; exact Fl.nil _, by rw [hn]; exact Fl.nil _, (((((Ext.refl w).trans hx5).trans hx13).trans hx27).grownN hg617 (by omega))⟩

theorem rsign_at {S2 : Nat → Prop} {v u : Value} {m n : Nat} (sd : List UInt8) (many used idx : Int) (msg : List UInt8) (w : World) (hf : Fl S w 1 v m (byteVals sd)) (hm : Fl S2 w 1 u n (byteVals msg)) :
    Calls Tryd.prog 15 #[.agg #[v, .int .i64 many, .int .i64 used], .int .i64 idx, u] w (fun e w' => ∃ A1 n1 c1 A2 n2 c2 A3 n3 c3, e = .returned (.tuple #[.agg #[.int .i64 (signF sd many used idx msg).index, .slice A1 n1 c1, .slice A2 n2 c2, .slice A3 n3 c3], .int .i64 (signE sd many used idx msg)]) ∧ Fl (fun b => w.heap.size ≤ b) w' 32 (.slice A1 n1 c1) n1 (digVals (signF sd many used idx msg).op) ∧ Fl (fun b => w.heap.size ≤ b) w' 32 (.slice A2 n2 c2) n2 (digVals (signF sd many used idx msg).cl) ∧ Fl (fun b => w.heap.size ≤ b) w' 32 (.slice A3 n3 c3) n3 (digVals (signF sd many used idx msg).path) ∧ Ext w w') := by
  have h1 := hf.blen
  have h2 := hm.blen
  subst h1
  subst h2
  obtain ⟨A, c, rfl, _⟩ := hf.form
  obtain ⟨B, cb, rfl, _⟩ := hm.form
  exact rsign_any (S := fun _ => True) A c sd many used idx B cb msg w (hf.sub fun _ _ => trivial) (hm.sub fun _ _ => trivial)

end Go.Proofs.YtmjgjopbeokajaaDoor
