/- Several texts in one: SealB, SealC, CloneB, SealD, SealE, SealF. -/
import Derived.Test.YtmjgjopbeokajaaDoorProg
import Derived.Test.YtmjgjopbeokajaaDoorBunE
import Derived.Test.YtmjgjopbeokajaaDoorBunD
import Derived.Test.YtmjgjopbeokajaaDoorBunG
import Derived.KernelRfl
import Derived.Test.YtmjgjopbeokajaaDoorBunA
import Derived.Test.YtmjgjopbeokajaaDoorBunB
import Derived.Test.YtmjgjopbeokajaaDoorBunC
import Derived.WalkSpells
import Derived.Handy
namespace Go.Proofs.YtmjgjopbeokajaaDoor
open Go.RowKit

variable {S S' : Nat → Prop}

set_option maxRecDepth 100000 in
set_option maxHeartbeats 1000000 in
theorem valid_any (A : Option Addr) (c : Nat) (sd : List UInt8) (many used : Int) (w : World) (hf : Fl S w 1 (.slice A sd.length c) sd.length (byteVals sd)) :
    Calls Tryd.prog 30 #[.agg #[.slice A sd.length c, .int .i64 many, .int .i64 used]] w (fun e w' => e = .returned (.bool (kOk sd many used)) ∧ Ext w w') := by
  have hc : Fl (Clip S w) w 1 (.slice A sd.length c) sd.length (byteVals sd) := hf.clip
  have hcc := (Fl.cel hc).2.1
  refine calls_enter (l := [(.agg #[(.slice A sd.length c), (.int .i64 many), (.int .i64 used)])]) Tryd.func30 rfl rfl rfl (fun aA hF => ?_)
  refine wp_seq_k (fun K1 hK1 => ?_)
  refine wp_region_lit ?_
  refine wpl_op (i := 0) rfl (o_new (fun g => (.pointer (some ⟨g, 0, none⟩))) [(.slice A sd.length c), (.int .i64 many), (.int .i64 used)] 24 hF rfl rfl rfl rfl (rn_box (hF.get rfl) (by kernel_rfl)) ?_)
  intro g2 w3 a8 F9 z6 z7 b4 hx5; clear hF
  refine qv 1 (.bool false) F9 rfl (rn_assign rfl) fun _ F11 => ?_; clear F9
  refine wpList_nil ?_
  refine hK1 _ _ ?_
  clear hK1
  refine wp_seq_k (fun K12 hK12 => ?_)
  refine wp_region_lit ?_
  refine qv 0 (.pointer (some ⟨g2, 0, none⟩)) F11 rfl (rn_field Tryd.underlying24 rfl (by kernel_rfl) (F11.get rfl) rfl) fun _ F14 => ?_; clear F11
  refine qv 1 (.slice A sd.length c) F14 rfl (rn_load (isAgg_no Tryd.underlying22 rfl) (F14.get rfl) (b4.rule.1 0)) fun _ F16 => ?_; clear F14
  refine qv 2 (.int .i64 (sd.length : Nat)) F16 rfl (rn_len_slice Tryd.underlying22 (F16.get rfl)) fun _ F18 => ?_; clear F16
  refine qv 3 (.bool (decide ((1 : Int) ≤ ((sd.length : Nat) : Int)))) F18 rfl (rn_geq (F18.get rfl) rfl) fun _ F20 => ?_; clear F18
  refine qv 4 (.bool (decide ((1 : Int) ≤ ((sd.length : Nat) : Int)))) F20 rfl (rn_move (F20.get rfl)) fun _ F22 => ?_; clear F20
  by_cases hc23 : (1 : Int) ≤ ((sd.length : Nat) : Int)
  · skip
    refine qg 5 (.pointer (some ⟨g2, 0, none⟩)) F22 (decide_eq_true hc23) (rn_field Tryd.underlying24 rfl (by kernel_rfl) (F22.get rfl) rfl) fun _ F25 => ?_; clear F22
    refine qg 6 (.slice A sd.length c) F25 (decide_eq_true hc23) (rn_load (isAgg_no Tryd.underlying22 rfl) (F25.get rfl) (b4.rule.1 0)) fun _ F27 => ?_; clear F25
    refine qg 7 (.int .i64 (sd.length : Nat)) F27 (decide_eq_true hc23) (rn_len_slice Tryd.underlying22 (F27.get rfl)) fun _ F29 => ?_; clear F27
    refine qg 8 (.bool (decide (((sd.length : Nat) : Int) ≤ (64 : Int)))) F29 (decide_eq_true hc23) (rn_leq (F29.get rfl) rfl) fun _ F31 => ?_; clear F29
    refine qv 9 (.bool (decide (((sd.length : Nat) : Int) ≤ (64 : Int)))) F31 rfl (rn_pickT (c_true F31 rfl (decide_eq_true hc23)) (F31.get rfl)) fun _ F33 => ?_; clear F31
    refine qv 10 (.bool (decide (((sd.length : Nat) : Int) ≤ (64 : Int)))) F33 rfl (rn_move (F33.get rfl)) fun _ F35 => ?_; clear F33
    by_cases hc36 : ((sd.length : Nat) : Int) ≤ (64 : Int)
    · skip
      refine qg 11 (.pointer (some ⟨g2, 1, none⟩)) F35 (decide_eq_true hc36) (rn_field Tryd.underlying24 rfl (by kernel_rfl) (F35.get rfl) rfl) fun _ F38 => ?_; clear F35
      refine qg 12 (.int .i64 many) F38 (decide_eq_true hc36) (rn_load (isAgg_no Tryd.underlying3 rfl) (F38.get rfl) (b4.rule.1 1)) fun _ F40 => ?_; clear F38
      refine qg 13 (.bool (decide ((1 : Int) ≤ (many : Int)))) F40 (decide_eq_true hc36) (rn_geq (F40.get rfl) rfl) fun _ F42 => ?_; clear F40
      refine qv 14 (.bool (decide ((1 : Int) ≤ (many : Int)))) F42 rfl (rn_pickT (c_true F42 rfl (decide_eq_true hc36)) (F42.get rfl)) fun _ F44 => ?_; clear F42
      refine qv 15 (.bool (decide ((1 : Int) ≤ (many : Int)))) F44 rfl (rn_move (F44.get rfl)) fun _ F46 => ?_; clear F44
      by_cases hc47 : (1 : Int) ≤ (many : Int)
      · skip
        refine qg 16 (.pointer (some ⟨g2, 1, none⟩)) F46 (decide_eq_true hc47) (rn_field Tryd.underlying24 rfl (by kernel_rfl) (F46.get rfl) rfl) fun _ F49 => ?_; clear F46
        refine qg 17 (.int .i64 many) F49 (decide_eq_true hc47) (rn_load (isAgg_no Tryd.underlying3 rfl) (F49.get rfl) (b4.rule.1 1)) fun _ F51 => ?_; clear F49
        refine qg 18 (.bool (decide ((many : Int) ≤ (4096 : Int)))) F51 (decide_eq_true hc47) (rn_leq (F51.get rfl) rfl) fun _ F53 => ?_; clear F51
        refine qv 19 (.bool (decide ((many : Int) ≤ (4096 : Int)))) F53 rfl (rn_pickT (c_true F53 rfl (decide_eq_true hc47)) (F53.get rfl)) fun _ F55 => ?_; clear F53
        refine qv 20 (.bool (decide ((many : Int) ≤ (4096 : Int)))) F55 rfl (rn_move (F55.get rfl)) fun _ F57 => ?_; clear F55
        by_cases hc58 : (many : Int) ≤ (4096 : Int)
        · skip
          refine qg 21 (.pointer (some ⟨g2, 2, none⟩)) F57 (decide_eq_true hc58) (rn_field Tryd.underlying24 rfl (by kernel_rfl) (F57.get rfl) rfl) fun _ F60 => ?_; clear F57
          refine qg 22 (.int .i64 used) F60 (decide_eq_true hc58) (rn_load (isAgg_no Tryd.underlying3 rfl) (F60.get rfl) (b4.rule.1 2)) fun _ F62 => ?_; clear F60
          refine qg 23 (.bool (decide ((0 : Int) ≤ (used : Int)))) F62 (decide_eq_true hc58) (rn_geq (F62.get rfl) rfl) fun _ F64 => ?_; clear F62
          refine qv 24 (.bool (decide ((0 : Int) ≤ (used : Int)))) F64 rfl (rn_pickT (c_true F64 rfl (decide_eq_true hc58)) (F64.get rfl)) fun _ F66 => ?_; clear F64
          refine qv 25 (.bool (decide ((0 : Int) ≤ (used : Int)))) F66 rfl (rn_move (F66.get rfl)) fun _ F68 => ?_; clear F66
          by_cases hc69 : (0 : Int) ≤ (used : Int)
          · skip
            refine qg 26 (.pointer (some ⟨g2, 2, none⟩)) F68 (decide_eq_true hc69) (rn_field Tryd.underlying24 rfl (by kernel_rfl) (F68.get rfl) rfl) fun _ F71 => ?_; clear F68
            refine qg 27 (.int .i64 used) F71 (decide_eq_true hc69) (rn_load (isAgg_no Tryd.underlying3 rfl) (F71.get rfl) (b4.rule.1 2)) fun _ F73 => ?_; clear F71
            refine qg 28 (.pointer (some ⟨g2, 1, none⟩)) F73 (decide_eq_true hc69) (rn_field Tryd.underlying24 rfl (by kernel_rfl) (F73.get rfl) rfl) fun _ F75 => ?_; clear F73
            refine qg 29 (.int .i64 many) F75 (decide_eq_true hc69) (rn_load (isAgg_no Tryd.underlying3 rfl) (F75.get rfl) (b4.rule.1 1)) fun _ F77 => ?_; clear F75
            refine qg 30 (.bool (decide ((used : Int) ≤ (many : Int)))) F77 (decide_eq_true hc69) (rn_leq (F77.get rfl) (F77.get rfl)) fun _ F79 => ?_; clear F77
            refine qv 31 (.bool (decide ((used : Int) ≤ (many : Int)))) F79 rfl (rn_pickT (c_true F79 rfl (decide_eq_true hc69)) (F79.get rfl)) fun _ F81 => ?_; clear F79
            refine qv 32 (.bool (decide ((used : Int) ≤ (many : Int)))) F81 rfl (rn_assign (F81.get rfl)) fun _ F83 => ?_; clear F81
            refine wpList_nil ?_
            refine hK12 _ _ ?_
            clear hK12
            have F84 := (((F83.nil.c F83 2 rfl).c F83 1 rfl).c F83 0 rfl)
            clear F83
            refine wp_ret ?_
            refine ret1 F84 rfl rfl ?_
            exact ⟨congrArg (fun b => Ending.returned (.bool b)) (show (decide ((used : Int) ≤ (many : Int))) = kOk sd many used from by unfold kOk; exact decide_eq_decide.2 ⟨fun h => by omega, fun h => by omega⟩), ((Ext.refl w).trans hx5)⟩
          · skip
            refine qu 26 F68 (decide_eq_false hc69) fun _ F86 => ?_; clear F68
            refine qu 27 F86 (decide_eq_false hc69) fun _ F88 => ?_; clear F86
            refine qu 28 F88 (decide_eq_false hc69) fun _ F90 => ?_; clear F88
            refine qu 29 F90 (decide_eq_false hc69) fun _ F92 => ?_; clear F90
            refine qu 30 F92 (decide_eq_false hc69) fun _ F94 => ?_; clear F92
            refine qv 31 (.bool false) F94 rfl (rn_pickF (c_false F94 rfl (decide_eq_false hc69)) rfl) fun _ F96 => ?_; clear F94
            refine qv 32 (.bool false) F96 rfl (rn_assign (F96.get rfl)) fun _ F98 => ?_; clear F96
            refine wpList_nil ?_
            refine hK12 _ _ ?_
            clear hK12
            have F99 := (((F98.nil.c F98 2 rfl).c F98 1 rfl).c F98 0 rfl)
            clear F98
            refine wp_ret ?_
            refine ret1 F99 rfl rfl ?_
            exact ⟨by rw [kOk, decide_eq_false (by omega)], ((Ext.refl w).trans hx5)⟩
        · skip
          refine qu 21 F57 (decide_eq_false hc58) fun _ F101 => ?_; clear F57
          refine qu 22 F101 (decide_eq_false hc58) fun _ F103 => ?_; clear F101
          refine qu 23 F103 (decide_eq_false hc58) fun _ F105 => ?_; clear F103
          refine qv 24 (.bool false) F105 rfl (rn_pickF (c_false F105 rfl (decide_eq_false hc58)) rfl) fun _ F107 => ?_; clear F105
          refine qv 25 (.bool false) F107 rfl (rn_move (F107.get rfl)) fun _ F109 => ?_; clear F107
          refine qu 26 F109 rfl fun _ F111 => ?_; clear F109
          refine qu 27 F111 rfl fun _ F113 => ?_; clear F111
          refine qu 28 F113 rfl fun _ F115 => ?_; clear F113
          refine qu 29 F115 rfl fun _ F117 => ?_; clear F115
          refine qu 30 F117 rfl fun _ F119 => ?_; clear F117
          refine qv 31 (.bool false) F119 rfl (rn_pickF (c_false F119 rfl rfl) rfl) fun _ F121 => ?_; clear F119
          refine qv 32 (.bool false) F121 rfl (rn_assign (F121.get rfl)) fun _ F123 => ?_; clear F121
          refine wpList_nil ?_
          refine hK12 _ _ ?_
          clear hK12
          have F124 := (((F123.nil.c F123 2 rfl).c F123 1 rfl).c F123 0 rfl)
          clear F123
          refine wp_ret ?_
          refine ret1 F124 rfl rfl ?_
          exact ⟨by rw [kOk, decide_eq_false (by omega)], ((Ext.refl w).trans hx5)⟩
      · skip
        refine qu 16 F46 (decide_eq_false hc47) fun _ F126 => ?_; clear F46
        refine qu 17 F126 (decide_eq_false hc47) fun _ F128 => ?_; clear F126
        refine qu 18 F128 (decide_eq_false hc47) fun _ F130 => ?_; clear F128
        refine qv 19 (.bool false) F130 rfl (rn_pickF (c_false F130 rfl (decide_eq_false hc47)) rfl) fun _ F132 => ?_; clear F130
        refine qv 20 (.bool false) F132 rfl (rn_move (F132.get rfl)) fun _ F134 => ?_; clear F132
        refine qu 21 F134 rfl fun _ F136 => ?_; clear F134
        refine qu 22 F136 rfl fun _ F138 => ?_; clear F136
        refine qu 23 F138 rfl fun _ F140 => ?_; clear F138
        refine qv 24 (.bool false) F140 rfl (rn_pickF (c_false F140 rfl rfl) rfl) fun _ F142 => ?_; clear F140
        refine qv 25 (.bool false) F142 rfl (rn_move (F142.get rfl)) fun _ F144 => ?_; clear F142
        refine qu 26 F144 rfl fun _ F146 => ?_; clear F144
        refine qu 27 F146 rfl fun _ F148 => ?_; clear F146
        refine qu 28 F148 rfl fun _ F150 => ?_; clear F148
        refine qu 29 F150 rfl fun _ F152 => ?_; clear F150
        refine qu 30 F152 rfl fun _ F154 => ?_; clear F152
        refine qv 31 (.bool false) F154 rfl (rn_pickF (c_false F154 rfl rfl) rfl) fun _ F156 => ?_; clear F154
        refine qv 32 (.bool false) F156 rfl (rn_assign (F156.get rfl)) fun _ F158 => ?_; clear F156
        refine wpList_nil ?_
        refine hK12 _ _ ?_
        clear hK12
        have F159 := (((F158.nil.c F158 2 rfl).c F158 1 rfl).c F158 0 rfl)
        clear F158
        refine wp_ret ?_
        refine ret1 F159 rfl rfl ?_
        exact ⟨by rw [kOk, decide_eq_false (by omega)], ((Ext.refl w).trans hx5)⟩
    · skip
      refine qu 11 F35 (decide_eq_false hc36) fun _ F161 => ?_; clear F35
      refine qu 12 F161 (decide_eq_false hc36) fun _ F163 => ?_; clear F161
      refine qu 13 F163 (decide_eq_false hc36) fun _ F165 => ?_; clear F163
      refine qv 14 (.bool false) F165 rfl (rn_pickF (c_false F165 rfl (decide_eq_false hc36)) rfl) fun _ F167 => ?_; clear F165
      refine qv 15 (.bool false) F167 rfl (rn_move (F167.get rfl)) fun _ F169 => ?_; clear F167
      refine qu 16 F169 rfl fun _ F171 => ?_; clear F169
      refine qu 17 F171 rfl fun _ F173 => ?_; clear F171
      refine qu 18 F173 rfl fun _ F175 => ?_; clear F173
      refine qv 19 (.bool false) F175 rfl (rn_pickF (c_false F175 rfl rfl) rfl) fun _ F177 => ?_; clear F175
      refine qv 20 (.bool false) F177 rfl (rn_move (F177.get rfl)) fun _ F179 => ?_; clear F177
      refine qu 21 F179 rfl fun _ F181 => ?_; clear F179
      refine qu 22 F181 rfl fun _ F183 => ?_; clear F181
      refine qu 23 F183 rfl fun _ F185 => ?_; clear F183
      refine qv 24 (.bool false) F185 rfl (rn_pickF (c_false F185 rfl rfl) rfl) fun _ F187 => ?_; clear F185
      refine qv 25 (.bool false) F187 rfl (rn_move (F187.get rfl)) fun _ F189 => ?_; clear F187
      refine qu 26 F189 rfl fun _ F191 => ?_; clear F189
      refine qu 27 F191 rfl fun _ F193 => ?_; clear F191
      refine qu 28 F193 rfl fun _ F195 => ?_; clear F193
      refine qu 29 F195 rfl fun _ F197 => ?_; clear F195
      refine qu 30 F197 rfl fun _ F199 => ?_; clear F197
      refine qv 31 (.bool false) F199 rfl (rn_pickF (c_false F199 rfl rfl) rfl) fun _ F201 => ?_; clear F199
      refine qv 32 (.bool false) F201 rfl (rn_assign (F201.get rfl)) fun _ F203 => ?_; clear F201
      refine wpList_nil ?_
      refine hK12 _ _ ?_
      clear hK12
      have F204 := (((F203.nil.c F203 2 rfl).c F203 1 rfl).c F203 0 rfl)
      clear F203
      refine wp_ret ?_
      refine ret1 F204 rfl rfl ?_
      exact ⟨by rw [kOk, decide_eq_false (by omega)], ((Ext.refl w).trans hx5)⟩
  · skip
    refine qu 5 F22 (decide_eq_false hc23) fun _ F206 => ?_; clear F22
    refine qu 6 F206 (decide_eq_false hc23) fun _ F208 => ?_; clear F206
    refine qu 7 F208 (decide_eq_false hc23) fun _ F210 => ?_; clear F208
    refine qu 8 F210 (decide_eq_false hc23) fun _ F212 => ?_; clear F210
    refine qv 9 (.bool false) F212 rfl (rn_pickF (c_false F212 rfl (decide_eq_false hc23)) rfl) fun _ F214 => ?_; clear F212
    refine qv 10 (.bool false) F214 rfl (rn_move (F214.get rfl)) fun _ F216 => ?_; clear F214
    refine qu 11 F216 rfl fun _ F218 => ?_; clear F216
    refine qu 12 F218 rfl fun _ F220 => ?_; clear F218
    refine qu 13 F220 rfl fun _ F222 => ?_; clear F220
    refine qv 14 (.bool false) F222 rfl (rn_pickF (c_false F222 rfl rfl) rfl) fun _ F224 => ?_; clear F222
    refine qv 15 (.bool false) F224 rfl (rn_move (F224.get rfl)) fun _ F226 => ?_; clear F224
    refine qu 16 F226 rfl fun _ F228 => ?_; clear F226
    refine qu 17 F228 rfl fun _ F230 => ?_; clear F228
    refine qu 18 F230 rfl fun _ F232 => ?_; clear F230
    refine qv 19 (.bool false) F232 rfl (rn_pickF (c_false F232 rfl rfl) rfl) fun _ F234 => ?_; clear F232
    refine qv 20 (.bool false) F234 rfl (rn_move (F234.get rfl)) fun _ F236 => ?_; clear F234
    refine qu 21 F236 rfl fun _ F238 => ?_; clear F236
    refine qu 22 F238 rfl fun _ F240 => ?_; clear F238
    refine qu 23 F240 rfl fun _ F242 => ?_; clear F240
    refine qv 24 (.bool false) F242 rfl (rn_pickF (c_false F242 rfl rfl) rfl) fun _ F244 => ?_; clear F242
    refine qv 25 (.bool false) F244 rfl (rn_move (F244.get rfl)) fun _ F246 => ?_; clear F244
    refine qu 26 F246 rfl fun _ F248 => ?_; clear F246
    refine qu 27 F248 rfl fun _ F250 => ?_; clear F248
    refine qu 28 F250 rfl fun _ F252 => ?_; clear F250
    refine qu 29 F252 rfl fun _ F254 => ?_; clear F252
    refine qu 30 F254 rfl fun _ F256 => ?_; clear F254
    refine qv 31 (.bool false) F256 rfl (rn_pickF (c_false F256 rfl rfl) rfl) fun _ F258 => ?_; clear F256
    refine qv 32 (.bool false) F258 rfl (rn_assign (F258.get rfl)) fun _ F260 => ?_; clear F258
    refine wpList_nil ?_
    refine hK12 _ _ ?_
    clear hK12
    have F261 := (((F260.nil.c F260 2 rfl).c F260 1 rfl).c F260 0 rfl)
    clear F260
    refine wp_ret ?_
    refine ret1 F261 rfl rfl ?_
    exact ⟨by rw [kOk, decide_eq_false (by omega)], ((Ext.refl w).trans hx5)⟩

theorem valid_at {v : Value} {m : Nat} (sd : List UInt8) (many used : Int) (w : World) (hf : Fl S w 1 v m (byteVals sd)) :
    Calls Tryd.prog 30 #[.agg #[v, .int .i64 many, .int .i64 used]] w (fun e w' => e = .returned (.bool (kOk sd many used)) ∧ Ext w w') := by
  have hm := hf.blen
  subst hm
  obtain ⟨A, c, rfl, _⟩ := hf.form
  exact valid_any A c sd many used w hf

set_option maxRecDepth 100000 in
set_option maxHeartbeats 1000000 in
theorem two_any (n : Nat) (w : World) (hn : n < 65536) :
    Calls Tryd.prog 55 #[.int .i64 (n : Nat)] w (fun e w' => ∃ A c, e = .returned (.slice A 2 c) ∧ Fl (fun b => w.heap.size ≤ b) w' 1 (.slice A 2 c) 2 (byteVals (two n)) ∧ Ext w w') := by
  refine calls_enter (l := [(.int .i64 (n : Nat))]) Tryd.func55 rfl rfl rfl (fun aA hF => ?_)
  refine wp_seq_k (fun K1 hK1 => ?_)
  refine wp_region_lit ?_
  refine qv 0 (.slice none 0 0) hF rfl (rn_assign rfl) fun _ F3 => ?_; clear hF
  refine wpList_nil ?_
  refine hK1 _ _ ?_
  clear hK1
  refine wp_seq_k (fun K4 hK4 => ?_)
  refine wp_region_lit ?_
  refine qv 0 (.int .i64 (n : Nat)) F3 rfl (rn_move (F3.get rfl)) fun _ F6 => ?_; clear F3
  refine qv 1 (.int .i64 (n / 256 : Nat)) F6 rfl (rn_shrN (a := n) (n := 8) (m := n / 256) (F6.get rfl) rfl (by omega) (by rw [show 2 ^ 8 = 256 from rfl])) fun _ F8 => ?_; clear F6
  refine qv 2 (.int .u8 ((UInt8.ofNat (n / 256)).toNat : Nat)) F8 rfl (rn_convW Tryd.underlying3 Tryd.underlying5 (F8.get rfl) (cvi_8 (n / 256))) fun _ F10 => ?_; clear F8
  refine qv 3 (.int .i64 (n : Nat)) F10 rfl (rn_move (F10.get rfl)) fun _ F12 => ?_; clear F10
  refine qv 4 (.int .u8 ((UInt8.ofNat n).toNat : Nat)) F12 rfl (rn_convW Tryd.underlying3 Tryd.underlying5 (F12.get rfl) (cvi_8 n)) fun _ F14 => ?_; clear F12
  refine wpl_op (i := 5) rfl (o_new (fun g => (.slice (some ⟨g, 0, none⟩) 2 2)) [(.int .u8 ((UInt8.ofNat (n / 256)).toNat : Nat)), (.int .u8 ((UInt8.ofNat n).toNat : Nat))] 5 F14 rfl rfl rfl rfl (rn_buildSlice (parts2 (F14.get rfl) (F14.get rfl)) (by kernel_rfl)) ?_)
  intro g15 w16 a21 F22 z19 z20 b17 hx18; clear F14
  refine qv 6 (.slice (some ⟨g15, 0, none⟩) 2 2) F22 rfl (rn_assign (F22.get rfl)) fun _ F24 => ?_; clear F22
  refine wpList_nil ?_
  refine hK4 _ _ ?_
  clear hK4
  have F25 := ((F24.nil.c F24 2 rfl).c F24 0 rfl)
  clear F24
  refine wp_ret ?_
  refine ret1 F25 rfl rfl ?_
  exact ⟨_, _, rfl, (Fl.sub (Fl.blk (S := fun b => b = g15) (k := 1) (n := 2) (c := 2) (cs := byteVals [(UInt8.ofNat (n / 256)), (UInt8.ofNat n)]) b17 rfl (byteVals_one _) (by omega) rfl) (fun b hb => by omega)), ((Ext.refl w).trans hx18)⟩

set_option maxRecDepth 100000 in
set_option maxHeartbeats 1000000 in
theorem rtwo_any (n : Nat) (w : World) (hn : n < 65536) :
    Calls Tryd.prog 49 #[.int .i64 (n : Nat)] w (fun e w' => ∃ A c, e = .returned (.slice A 2 c) ∧ Fl (fun b => w.heap.size ≤ b) w' 1 (.slice A 2 c) 2 (byteVals (two n)) ∧ Ext w w') := by
  refine calls_enter (l := [(.int .i64 (n : Nat))]) Tryd.func49 rfl rfl rfl (fun aA hF => ?_)
  refine wp_seq_k (fun K1 hK1 => ?_)
  refine wp_region_lit ?_
  refine qv 0 (.slice none 0 0) hF rfl (rn_assign rfl) fun _ F3 => ?_; clear hF
  refine wpList_nil ?_
  refine hK1 _ _ ?_
  clear hK1
  refine wp_seq_k (fun K4 hK4 => ?_)
  refine wp_region_lit ?_
  refine qv 0 (.int .i64 (n : Nat)) F3 rfl (rn_move (F3.get rfl)) fun _ F6 => ?_; clear F3
  refine qv 1 (.int .i64 (n / 256 : Nat)) F6 rfl (rn_shrN (a := n) (n := 8) (m := n / 256) (F6.get rfl) rfl (by omega) (by rw [show 2 ^ 8 = 256 from rfl])) fun _ F8 => ?_; clear F6
  refine qv 2 (.int .u8 ((UInt8.ofNat (n / 256)).toNat : Nat)) F8 rfl (rn_convW Tryd.underlying3 Tryd.underlying5 (F8.get rfl) (cvi_8 (n / 256))) fun _ F10 => ?_; clear F8
  refine qv 3 (.int .i64 (n : Nat)) F10 rfl (rn_move (F10.get rfl)) fun _ F12 => ?_; clear F10
  refine qv 4 (.int .u8 ((UInt8.ofNat n).toNat : Nat)) F12 rfl (rn_convW Tryd.underlying3 Tryd.underlying5 (F12.get rfl) (cvi_8 n)) fun _ F14 => ?_; clear F12
  refine wpl_op (i := 5) rfl (o_new (fun g => (.slice (some ⟨g, 0, none⟩) 2 2)) [(.int .u8 ((UInt8.ofNat (n / 256)).toNat : Nat)), (.int .u8 ((UInt8.ofNat n).toNat : Nat))] 5 F14 rfl rfl rfl rfl (rn_buildSlice (parts2 (F14.get rfl) (F14.get rfl)) (by kernel_rfl)) ?_)
  intro g15 w16 a21 F22 z19 z20 b17 hx18; clear F14
  refine qv 6 (.slice (some ⟨g15, 0, none⟩) 2 2) F22 rfl (rn_assign (F22.get rfl)) fun _ F24 => ?_; clear F22
  refine wpList_nil ?_
  refine hK4 _ _ ?_
  clear hK4
  have F25 := ((F24.nil.c F24 2 rfl).c F24 0 rfl)
  clear F24
  refine wp_ret ?_
  refine ret1 F25 rfl rfl ?_
  exact ⟨_, _, rfl, (Fl.sub (Fl.blk (S := fun b => b = g15) (k := 1) (n := 2) (c := 2) (cs := byteVals [(UInt8.ofNat (n / 256)), (UInt8.ofNat n)]) b17 rfl (byteVals_one _) (by omega) rfl) (fun b hb => by omega)), ((Ext.refl w).trans hx18)⟩

set_option maxRecDepth 100000 in
set_option maxHeartbeats 1000000 in
theorem open_any (d : List UInt8) (w : World) (hd : d.length = 32) (hG : Glob w) :
    Calls Tryd.prog 43 #[.agg (byteVals d).toArray] w (fun e w' => e = .returned (.agg (byteVals (openD d)).toArray) ∧ Ext w w') := by
  refine calls_enter (l := [(.agg (byteVals d).toArray)]) Tryd.func43 rfl rfl rfl (fun aA hF => ?_)
  refine wp_seq_k (fun K1 hK1 => ?_)
  refine wp_region_lit ?_
  refine wpl_op (i := 0) rfl (o_new (fun g => (.pointer (some ⟨g, 0, none⟩))) (byteVals d) 37 hF rfl rfl rfl rfl (rn_box (hF.get rfl) (box_arr _)) ?_)
  intro g2 w3 a8 F9 z6 z7 b4 hx5; clear hF
  refine wpl_op (i := 1) rfl (o_new (fun g => (.pointer (some ⟨g, 0, none⟩))) (byteVals (List.replicate 32 0)) 37 F9 rfl rfl rfl rfl (by kernel_rfl) ?_)
  intro g10 w11 a16 F17 z14 z15 b12 hx13; clear F9
  refine wpList_nil ?_
  refine hK1 _ _ ?_
  clear hK1
  refine wp_seq_k (fun K18 hK18 => ?_)
  refine wp_region_lit ?_
  refine qv 0 (.slice (some ⟨g2, 0, none⟩) 32 32) F17 rfl (rn_arrAll Tryd.underlying37 inf5 (F17.get rfl)) fun _ F20 => ?_; clear F17
  have b21 := (b4.ext hx13)
  refine wpl_op (i := 1) rfl (o_call F20 rfl rfl rfl rfl (rn_call (args2 rfl (F20.get rfl)) rfl (by kernel_rfl)) (tagged_at ([111, 112, 101, 110]) (v := (.slice (some ⟨g2, 0, none⟩) 32 32)) (n := 32) d _ (Fl.blk (S := fun b => b = g2) (k := 1) (n := 32) (c := 32) b21 (by rw [byteVals_len hd, Nat.mul_one]) (byteVals_one _) (by omega) rfl) (hG.ext (((Ext.refl w).trans hx5).trans hx13)) (by simp <;> omega) (by omega)) ?_)
  rintro _ w22 ⟨rfl, hx23⟩
  refine ⟨_, rfl, ?_⟩; intro a24 F25; clear F20; have z26 := hx23.size
  have b30 := (b12.ext hx23)
  refine wpl_op (i := 2) rfl (o_store (cells := (byteVals (tagged ([111, 112, 101, 110]) d))) F25 rfl rfl rfl rfl (F25.get rfl) (F25.get rfl) b30 (inf37.trans (congrArg some (byteVals_len (tagged_len _ _)).symm)) ((byteVals_len (show List.length (List.replicate 32 0) = _ from List.length_replicate)).trans (byteVals_len (tagged_len _ _)).symm) (byteVals_one _) ?_)
  intro w27 b28 hg29; have z31 := hg29.size
  refine wpList_nil ?_
  refine hK18 _ _ ?_
  clear hK18
  refine wp_ret ?_
  refine retC F25 rfl rfl b28 Tryd.underlying37 rfl (inf37.trans (congrArg some (byteVals_len (tagged_len _ _)).symm)) ?_
  exact ⟨rfl, (((((Ext.refl w).trans hx5).trans hx13).trans hx23).grownN hg29 (by omega))⟩

set_option maxRecDepth 100000 in
set_option maxHeartbeats 1000000 in
theorem rhash_any (d : List UInt8) (w : World) (hd : d.length = 32) :
    Calls Tryd.prog 40 #[.agg (byteVals d).toArray] w (fun e w' => e = .returned (.agg (byteVals (openD d)).toArray) ∧ Ext w w') := by
  refine calls_enter (l := [(.agg (byteVals d).toArray)]) Tryd.func40 rfl rfl rfl (fun aA hF => ?_)
  refine wp_seq_k (fun K1 hK1 => ?_)
  refine wp_region_lit ?_
  refine wpl_op (i := 0) rfl (o_new (fun g => (.pointer (some ⟨g, 0, none⟩))) (byteVals d) 37 hF rfl rfl rfl rfl (rn_box (hF.get rfl) (box_arr _)) ?_)
  intro g2 w3 a8 F9 z6 z7 b4 hx5; clear hF
  refine wpl_op (i := 1) rfl (o_new (fun g => (.pointer (some ⟨g, 0, none⟩))) (byteVals (List.replicate 32 0)) 37 F9 rfl rfl rfl rfl (by kernel_rfl) ?_)
  intro g10 w11 a16 F17 z14 z15 b12 hx13; clear F9
  refine wpList_nil ?_
  refine hK1 _ _ ?_
  clear hK1
  refine wp_seq_k (fun K18 hK18 => ?_)
  refine wp_region_lit ?_
  refine qv 0 (.slice (some ⟨g2, 0, none⟩) 32 32) F17 rfl (rn_arrAll Tryd.underlying37 inf5 (F17.get rfl)) fun _ F20 => ?_; clear F17
  have b21 := (b4.ext hx13)
  refine wpl_op (i := 1) rfl (o_call F20 rfl rfl rfl rfl (rn_call (args2 rfl (F20.get rfl)) rfl (by kernel_rfl)) (rtagged_at ([111, 112, 101, 110]) (v := (.slice (some ⟨g2, 0, none⟩) 32 32)) (n := 32) d _ (Fl.blk (S := fun b => b = g2) (k := 1) (n := 32) (c := 32) b21 (by rw [byteVals_len hd, Nat.mul_one]) (byteVals_one _) (by omega) rfl) (by decide) (by omega)) ?_)
  rintro _ w22 ⟨rfl, hx23⟩
  refine ⟨_, rfl, ?_⟩; intro a24 F25; clear F20; have z26 := hx23.size
  have b30 := (b12.ext hx23)
  refine wpl_op (i := 2) rfl (o_store (cells := (byteVals (tagged ([111, 112, 101, 110]) d))) F25 rfl rfl rfl rfl (F25.get rfl) (F25.get rfl) b30 (inf37.trans (congrArg some (byteVals_len (tagged_len _ _)).symm)) ((byteVals_len (show List.length (List.replicate 32 0) = _ from List.length_replicate)).trans (byteVals_len (tagged_len _ _)).symm) (byteVals_one _) ?_)
  intro w27 b28 hg29; have z31 := hg29.size
  refine wpList_nil ?_
  refine hK18 _ _ ?_
  clear hK18
  refine wp_ret ?_
  refine retC F25 rfl rfl b28 Tryd.underlying37 rfl (inf37.trans (congrArg some (byteVals_len (tagged_len _ _)).symm)) ?_
  exact ⟨rfl, (((((Ext.refl w).trans hx5).trans hx13).trans hx23).grownN hg29 (by omega))⟩

end Go.Proofs.YtmjgjopbeokajaaDoor

namespace Go.Proofs.YtmjgjopbeokajaaDoor
open Go.RowKit

variable {S S' : Nat → Prop}

set_option maxRecDepth 100000 in
set_option maxHeartbeats 1000000 in
theorem secret_any (A : Option Addr) (c : Nat) (sd : List UInt8) (i j : Nat) (b : Bool) (w : World) (hf : Fl S w 1 (.slice A sd.length c) sd.length (byteVals sd)) (hG : Glob w) (hsd : sd.length ≤ 4194304) (hi : i < 65536) (hj : j < 256) :
    Calls Tryd.prog 35 #[.agg #[.slice A sd.length c, .int .i64 (i : Nat)], .int .i64 (j : Nat), .bool b] w (fun e w' => e = .returned (.agg (byteVals (secretD sd i j b)).toArray) ∧ Ext w w') := by
  have hc : Fl (Clip S w) w 1 (.slice A sd.length c) sd.length (byteVals sd) := hf.clip
  have hcc := (Fl.cel hc).2.1
  refine calls_enter (l := [(.agg #[(.slice A sd.length c), (.int .i64 (i : Nat))]), (.int .i64 (j : Nat)), (.bool b)]) Tryd.func35 rfl rfl rfl (fun aA hF => ?_)
  refine wp_seq_k (fun K1 hK1 => ?_)
  refine wp_region_lit ?_
  refine wpl_op (i := 0) rfl (o_new (fun g => (.pointer (some ⟨g, 0, none⟩))) [(.slice A sd.length c), (.int .i64 (i : Nat))] 58 hF rfl rfl rfl rfl (rn_box (hF.get rfl) (by kernel_rfl)) ?_)
  intro g2 w3 a8 F9 z6 z7 b4 hx5; clear hF
  refine wpl_op (i := 1) rfl (o_new (fun g => (.pointer (some ⟨g, 0, none⟩))) (byteVals (List.replicate 32 0)) 37 F9 rfl rfl rfl rfl (by kernel_rfl) ?_)
  intro g10 w11 a16 F17 z14 z15 b12 hx13; clear F9
  refine wpList_nil ?_
  refine hK1 _ _ ?_
  clear hK1
  refine wp_seq_k (fun K18 hK18 => ?_)
  refine wp_region_lit ?_
  refine qv 0 (.int .u8 0) F17 rfl (rn_assign rfl) fun _ F20 => ?_; clear F17
  refine wpList_nil ?_
  refine hK18 _ _ ?_
  clear hK18
  refine wp_seq_k (fun K21 hK21 => ?_)
  refine wp_seq_k (fun K22 hK22 => ?_)
  refine wp_region_lit ?_
  refine qv 0 (.bool b) F20 rfl (rn_move (F20.get rfl)) fun _ F24 => ?_; clear F20
  refine wpList_nil ?_
  refine hK22 _ _ ?_
  clear hK22
  rcases Bool.eq_false_or_eq_true b with hc25 | hc25
  · skip
    refine wp_cond_true (c_true F24 rfl hc25) ?_
    refine wp_region_lit ?_
    refine qv 0 (.int .u8 1) F24 rfl (rn_assign rfl) fun _ F27 => ?_; clear F24
    refine wpList_nil ?_
    refine hK21 _ _ ?_
    clear hK21
    refine wp_seq_k (fun K28 hK28 => ?_)
    have hx30 : ∃ W, w11.drew = W ∧ Ext w11 W := ⟨_, rfl, (Ext.refl _).drew⟩
    obtain ⟨w29, e31, hx30⟩ := hx30
    have z32 := hx30.size
    refine any_start (fun W => Ext w29 W ∧ Blk W g2 58 [(.slice A sd.length c), (.int .i64 (i : Nat))] ∧ Blk W g10 37 (byteVals (List.replicate 32 0))) (fun i => i == 12) 13 #[false, false, false, false, false, false, false, false, false, false, false, false, false] rfl rfl rfl ?_
    rw [e31]; clear e31
    refine any_have (n1 := 4) (L1 := #[true, true, true, true, true, true, true, true, true, false, false, false, false]) (fun a' W => ∃ (A50 : Option Addr) (c51 : Nat) (g72 : Nat), Sl 21 [(0, (.agg #[(.slice A sd.length c), (.int .i64 (i : Nat))])), (1, (.int .i64 (j : Nat))), (2, (.bool b)), (3, (.pointer (some ⟨g2, 0, none⟩))), (6, (.pointer (some ⟨g10, 0, none⟩))), (7, (.int .u8 1)), (8, (.bool b)), (10, (.slice A sd.length c)), (13, (.slice A50 2 c51)), (17, (.slice (some ⟨g72, 0, none⟩) 2 2))] a' ∧ Ext w29 W ∧ Blk W g72 5 [(.int .u8 ((UInt8.ofNat j).toNat : Nat)), (.int .u8 1)] ∧ w29.heap.size ≤ g72 ∧ Fl (fun b => w29.heap.size ≤ b) W 1 (.slice A50 2 c51) 2 (byteVals (two i))) ?_ (fun st120 => ?_)
    · skip
      rintro a121 w122 ⟨A50, c51, g72, F123, hx124, b125, z126, hf127⟩
      clear F27
      have z128 := hx124.size
      have z129 := b125.lt
      have z130 := (Fl.cel hf127).2.1
      have z131 := Fl.blen hf127
      refine any_one (i := 9) (by decide +kernel) rfl ?_
      refine o_new (fun g => (.slice (some ⟨g, 0, none⟩) 3 3)) [(.slice A sd.length c), (.slice A50 2 c51), (.slice (some ⟨g72, 0, none⟩) 2 2)] 22 F123 rfl rfl rfl rfl (rn_buildSlice (parts3 (F123.get rfl) (F123.get rfl) (F123.get rfl)) (by kernel_rfl)) ?_
      intro g132 w133 a138 F139 z136 z137 b134 hx135; clear F123
      have b140 := ((((b4.ext hx13).ext hx30).ext hx124).ext hx135)
      have b141 := (((b12.ext hx30).ext hx124).ext hx135)
      refine ⟨fun _ _ => ⟨(((Ext.refl w29).trans hx124).trans hx135), b140, b141⟩, ?_⟩
      refine any_one (i := 10) (by decide +kernel) rfl ?_
      have d142 := (((((hc.ext hx5).ext hx13).ext hx30).ext hx124).ext hx135)
      have d143 := (hf127.ext hx135)
      have b144 := (b125.ext hx135)
      have hn148 := Fl.blen d142
      have hn149 := Fl.blen d143
      have hn150 := Fl.blen (Fl.blk (S := fun b => b = g72) (k := 1) (n := 2) (c := 2) (cs := byteVals [(UInt8.ofNat j), (1 : UInt8)]) b144 rfl (byteVals_one _) (by omega) rfl)
      have hn151 : ([sd, two i, [(UInt8.ofNat j), (1 : UInt8)]]).flatten.length = sd.length + 2 + 2 := by simp only [List.flatten_cons, List.flatten_nil, List.length_append, List.length_nil]; omega
      refine o_call F139 rfl rfl rfl rfl (rn_call (args1 (F139.get rfl)) rfl (by kernel_rfl)) (concat_at [sd, two i, [(UInt8.ofNat j), (1 : UInt8)]] _ (RBss.three b134 d142 d143 (Fl.blk (S := fun b => b = g72) (k := 1) (n := 2) (c := 2) (cs := byteVals [(UInt8.ofNat j), (1 : UInt8)]) b144 rfl (byteVals_one _) (by omega) rfl)) hn151 (by omega)) ?_
      rintro _ w152 ⟨A145, c146, rfl, hf147, hx153⟩
      rw [show ([sd, two i, [(UInt8.ofNat j), (1 : UInt8)]]).flatten = sd ++ (two i) ++ ([(UInt8.ofNat j), (1 : UInt8)]) from by simp] at hf147
      refine ⟨_, rfl, ?_⟩; intro a154 F155; clear F139; have z156 := hx153.size
      have b157 := (b140.ext hx153)
      have b158 := (b141.ext hx153)
      refine ⟨fun _ _ => ⟨((((Ext.refl w29).trans hx124).trans hx135).trans hx153), b157, b158⟩, ?_⟩
      refine any_one (i := 11) (by decide +kernel) rfl ?_
      refine o_call F155 rfl rfl rfl rfl (rn_call (args2 rfl (F155.get rfl)) rfl (by kernel_rfl)) (tagged_at ([115, 101, 99, 114, 101, 116]) (v := (.slice A145 (sd.length + 2 + 2) c146)) (n := (sd.length + 2 + 2)) (sd ++ (two i) ++ ([(UInt8.ofNat j), (1 : UInt8)])) _ hf147 (hG.ext (((((((Ext.refl w).trans hx5).trans hx13).trans hx30).trans hx124).trans hx135).trans hx153)) (by simp <;> omega) (by omega)) ?_
      rintro _ w159 ⟨rfl, hx160⟩
      refine ⟨_, rfl, ?_⟩; intro a161 F162; clear F155; have z163 := hx160.size
      have b164 := (b157.ext hx160)
      have b165 := (b158.ext hx160)
      refine ⟨fun _ _ => ⟨(((((Ext.refl w29).trans hx124).trans hx135).trans hx153).trans hx160), b164, b165⟩, ?_⟩
      refine any_one (i := 12) (by decide +kernel) rfl ?_
      refine o_store (cells := (byteVals (tagged ([115, 101, 99, 114, 101, 116]) (sd ++ (two i) ++ ([(UInt8.ofNat j), (1 : UInt8)]))))) F162 rfl rfl rfl rfl (F162.get rfl) (F162.get rfl) b165 (inf37.trans (congrArg some (byteVals_len (tagged_len _ _)).symm)) ((byteVals_len (show List.length (List.replicate 32 0) = _ from List.length_replicate)).trans (byteVals_len (tagged_len _ _)).symm) (byteVals_one _) ?_
      intro w166 b167 hg168; have z169 := hg168.size
      refine ⟨fun h => absurd h (by decide), ?_⟩
      refine any_nil (by decide +kernel) ?_
      refine hK28 _ _ ?_
      clear hK28
      have F170 := (((((((F162.nil.c F162 8 rfl).c F162 7 rfl).c F162 6 rfl).c F162 3 rfl).c F162 2 rfl).c F162 1 rfl).c F162 0 rfl)
      clear F162
      refine wp_ret ?_
      refine retC F170 rfl rfl b167 Tryd.underlying37 rfl (inf37.trans (congrArg some (byteVals_len (tagged_len _ _)).symm)) ?_
      exact ⟨by subst hc25; rfl, (((((((((Ext.refl w).trans hx5).trans hx13).trans hx30).trans hx124).trans hx135).trans hx153).trans hx160).grownN hg168 (by omega))⟩
    refine qp 0 (.pointer (some ⟨g2, 0, none⟩)) F27 rfl rfl (fun W => (rn_field Tryd.underlying58 rfl (by kernel_rfl) (F27.get rfl) rfl)) fun _ F172 => ?_; clear F27
    have b174 := ((b4.ext hx13).ext hx30)
    have b175 := (b12.ext hx30)
    have hS173 : Ext w29 w29 ∧ Blk w29 g2 58 [(.slice A sd.length c), (.int .i64 (i : Nat))] ∧ Blk w29 g10 37 (byteVals (List.replicate 32 0)) := ⟨(Ext.refl w29), b174, b175⟩
    refine qs 1 (.slice A sd.length c) F172 rfl rfl hS173 (fun W hW => (rn_load (isAgg_no Tryd.underlying22 rfl) (F172.get rfl) (hW.2.1.rule.1 0))) fun _ F177 => ?_; clear F172
    refine qp 2 (.pointer (some ⟨g2, 1, none⟩)) F177 rfl rfl (fun W => (rn_field Tryd.underlying58 rfl (by kernel_rfl) (F177.get rfl) rfl)) fun _ F179 => ?_; clear F177
    refine qs 3 (.int .i64 (i : Nat)) F179 rfl rfl hS173 (fun W hW => (rn_load (isAgg_no Tryd.underlying3 rfl) (F179.get rfl) (hW.2.1.rule.1 1))) fun _ F181 => ?_; clear F179
    refine qp 5 (.int .i64 (j : Nat)) F181 rfl rfl (fun W => (rn_move (F181.get rfl))) fun _ F183 => ?_; clear F181
    refine qs 6 (.int .u8 ((UInt8.ofNat j).toNat : Nat)) F183 rfl rfl hS173 (fun W hW => (rn_convW Tryd.underlying3 Tryd.underlying5 (F183.get rfl) (cvi_8 j))) fun _ F185 => ?_; clear F183
    refine qp 7 (.int .u8 1) F185 rfl rfl (fun W => (rn_move (F185.get rfl))) fun _ F187 => ?_; clear F185
    refine any_two (i := 4) (k := 8) (by decide +kernel) rfl rfl ?_ ?_
    · skip
      refine o_call F187 rfl rfl rfl rfl (rn_call (args1 (F187.get rfl)) rfl (by kernel_rfl)) (two_any i _ (by omega)) ?_
      rintro _ w192 ⟨A188, c189, rfl, hf190, hx193⟩
      have z191 := (Fl.cel hf190).2.1
      refine ⟨_, rfl, ?_⟩; intro a194 F195; clear F187; have z196 := hx193.size
      have hf197 : Fl (Clip (fun b => w29.heap.size ≤ b) w192) w192 1 (.slice A188 2 c189) 2 (byteVals (two i)) := hf190.clip
      have b198 := (b174.ext hx193)
      have b199 := (b175.ext hx193)
      refine ⟨fun _ _ => ⟨((Ext.refl w29).trans hx193), b198, b199⟩, ?_⟩
      refine any_one (i := 8) (by decide +kernel) rfl ?_
      refine o_new (fun g => (.slice (some ⟨g, 0, none⟩) 2 2)) [(.int .u8 ((UInt8.ofNat j).toNat : Nat)), (.int .u8 1)] 5 F195 rfl rfl rfl rfl (rn_buildSlice (parts2 (F195.get rfl) (F195.get rfl)) (by kernel_rfl)) ?_
      intro g200 w201 a206 F207 z204 z205 b202 hx203; clear F195
      have b208 := (b198.ext hx203)
      have b209 := (b199.ext hx203)
      refine ⟨fun _ _ => ⟨(((Ext.refl w29).trans hx193).trans hx203), b208, b209⟩, ?_⟩
      have d210 := (hf197.ext hx203)
      exact st120 _ _ ⟨A188, c189, g200, ((((((((((F207.nil.c F207 17 rfl).c F207 13 rfl).c F207 10 rfl).c F207 8 rfl).c F207 7 rfl).c F207 6 rfl).c F207 3 rfl).c F207 2 rfl).c F207 1 rfl).c F207 0 rfl), (((Ext.refl w29).trans hx193).trans hx203), b202, (by omega), (Fl.sub d210 (fun b hb => by first | omega | (simp only [Clip] at hb; omega)))⟩
    · skip
      refine o_new (fun g => (.slice (some ⟨g, 0, none⟩) 2 2)) [(.int .u8 ((UInt8.ofNat j).toNat : Nat)), (.int .u8 1)] 5 F187 rfl rfl rfl rfl (rn_buildSlice (parts2 (F187.get rfl) (F187.get rfl)) (by kernel_rfl)) ?_
      intro g211 w212 a217 F218 z215 z216 b213 hx214; clear F187
      have b219 := (b174.ext hx214)
      have b220 := (b175.ext hx214)
      refine ⟨fun _ _ => ⟨((Ext.refl w29).trans hx214), b219, b220⟩, ?_⟩
      refine any_one (i := 4) (by decide +kernel) rfl ?_
      refine o_call F218 rfl rfl rfl rfl (rn_call (args1 (F218.get rfl)) rfl (by kernel_rfl)) (two_any i _ (by omega)) ?_
      rintro _ w225 ⟨A221, c222, rfl, hf223, hx226⟩
      have z224 := (Fl.cel hf223).2.1
      refine ⟨_, rfl, ?_⟩; intro a227 F228; clear F218; have z229 := hx226.size
      have hf230 : Fl (Clip (fun b => w212.heap.size ≤ b) w225) w225 1 (.slice A221 2 c222) 2 (byteVals (two i)) := hf223.clip
      have b231 := (b219.ext hx226)
      have b232 := (b220.ext hx226)
      refine ⟨fun _ _ => ⟨(((Ext.refl w29).trans hx214).trans hx226), b231, b232⟩, ?_⟩
      have b233 := (b213.ext hx226)
      exact st120 _ _ ⟨A221, c222, g211, ((((((((((F228.nil.c F228 17 rfl).c F228 13 rfl).c F228 10 rfl).c F228 8 rfl).c F228 7 rfl).c F228 6 rfl).c F228 3 rfl).c F228 2 rfl).c F228 1 rfl).c F228 0 rfl), (((Ext.refl w29).trans hx214).trans hx226), b233, (by omega), (Fl.sub hf230 (fun b hb => by first | omega | (simp only [Clip] at hb; omega)))⟩
  · skip
    refine wp_cond_false (c_false F24 rfl hc25) ?_
    refine wp_skip ?_
    refine hK21 _ _ ?_
    clear hK21
    refine wp_seq_k (fun K234 hK234 => ?_)
    have hx236 : ∃ W, w11.drew = W ∧ Ext w11 W := ⟨_, rfl, (Ext.refl _).drew⟩
    obtain ⟨w235, e237, hx236⟩ := hx236
    have z238 := hx236.size
    refine any_start (fun W => Ext w235 W ∧ Blk W g2 58 [(.slice A sd.length c), (.int .i64 (i : Nat))] ∧ Blk W g10 37 (byteVals (List.replicate 32 0))) (fun i => i == 12) 13 #[false, false, false, false, false, false, false, false, false, false, false, false, false] rfl rfl rfl ?_
    rw [e237]; clear e237
    refine any_have (n1 := 4) (L1 := #[true, true, true, true, true, true, true, true, true, false, false, false, false]) (fun a' W => ∃ (A256 : Option Addr) (c257 : Nat) (g278 : Nat), Sl 21 [(0, (.agg #[(.slice A sd.length c), (.int .i64 (i : Nat))])), (1, (.int .i64 (j : Nat))), (2, (.bool b)), (3, (.pointer (some ⟨g2, 0, none⟩))), (6, (.pointer (some ⟨g10, 0, none⟩))), (7, (.int .u8 0)), (8, (.bool b)), (10, (.slice A sd.length c)), (13, (.slice A256 2 c257)), (17, (.slice (some ⟨g278, 0, none⟩) 2 2))] a' ∧ Ext w235 W ∧ Blk W g278 5 [(.int .u8 ((UInt8.ofNat j).toNat : Nat)), (.int .u8 0)] ∧ w235.heap.size ≤ g278 ∧ Fl (fun b => w235.heap.size ≤ b) W 1 (.slice A256 2 c257) 2 (byteVals (two i))) ?_ (fun st326 => ?_)
    · skip
      rintro a327 w328 ⟨A256, c257, g278, F329, hx330, b331, z332, hf333⟩
      clear F24
      have z334 := hx330.size
      have z335 := b331.lt
      have z336 := (Fl.cel hf333).2.1
      have z337 := Fl.blen hf333
      refine any_one (i := 9) (by decide +kernel) rfl ?_
      refine o_new (fun g => (.slice (some ⟨g, 0, none⟩) 3 3)) [(.slice A sd.length c), (.slice A256 2 c257), (.slice (some ⟨g278, 0, none⟩) 2 2)] 22 F329 rfl rfl rfl rfl (rn_buildSlice (parts3 (F329.get rfl) (F329.get rfl) (F329.get rfl)) (by kernel_rfl)) ?_
      intro g338 w339 a344 F345 z342 z343 b340 hx341; clear F329
      have b346 := ((((b4.ext hx13).ext hx236).ext hx330).ext hx341)
      have b347 := (((b12.ext hx236).ext hx330).ext hx341)
      refine ⟨fun _ _ => ⟨(((Ext.refl w235).trans hx330).trans hx341), b346, b347⟩, ?_⟩
      refine any_one (i := 10) (by decide +kernel) rfl ?_
      have d348 := (((((hc.ext hx5).ext hx13).ext hx236).ext hx330).ext hx341)
      have d349 := (hf333.ext hx341)
      have b350 := (b331.ext hx341)
      have hn354 := Fl.blen d348
      have hn355 := Fl.blen d349
      have hn356 := Fl.blen (Fl.blk (S := fun b => b = g278) (k := 1) (n := 2) (c := 2) (cs := byteVals [(UInt8.ofNat j), (0 : UInt8)]) b350 rfl (byteVals_one _) (by omega) rfl)
      have hn357 : ([sd, two i, [(UInt8.ofNat j), (0 : UInt8)]]).flatten.length = sd.length + 2 + 2 := by simp only [List.flatten_cons, List.flatten_nil, List.length_append, List.length_nil]; omega
      refine o_call F345 rfl rfl rfl rfl (rn_call (args1 (F345.get rfl)) rfl (by kernel_rfl)) (concat_at [sd, two i, [(UInt8.ofNat j), (0 : UInt8)]] _ (RBss.three b340 d348 d349 (Fl.blk (S := fun b => b = g278) (k := 1) (n := 2) (c := 2) (cs := byteVals [(UInt8.ofNat j), (0 : UInt8)]) b350 rfl (byteVals_one _) (by omega) rfl)) hn357 (by omega)) ?_
      rintro _ w358 ⟨A351, c352, rfl, hf353, hx359⟩
      rw [show ([sd, two i, [(UInt8.ofNat j), (0 : UInt8)]]).flatten = sd ++ (two i) ++ ([(UInt8.ofNat j), (0 : UInt8)]) from by simp] at hf353
      refine ⟨_, rfl, ?_⟩; intro a360 F361; clear F345; have z362 := hx359.size
      have b363 := (b346.ext hx359)
      have b364 := (b347.ext hx359)
      refine ⟨fun _ _ => ⟨((((Ext.refl w235).trans hx330).trans hx341).trans hx359), b363, b364⟩, ?_⟩
      refine any_one (i := 11) (by decide +kernel) rfl ?_
      refine o_call F361 rfl rfl rfl rfl (rn_call (args2 rfl (F361.get rfl)) rfl (by kernel_rfl)) (tagged_at ([115, 101, 99, 114, 101, 116]) (v := (.slice A351 (sd.length + 2 + 2) c352)) (n := (sd.length + 2 + 2)) (sd ++ (two i) ++ ([(UInt8.ofNat j), (0 : UInt8)])) _ hf353 (hG.ext (((((((Ext.refl w).trans hx5).trans hx13).trans hx236).trans hx330).trans hx341).trans hx359)) (by simp <;> omega) (by omega)) ?_
      rintro _ w365 ⟨rfl, hx366⟩
      refine ⟨_, rfl, ?_⟩; intro a367 F368; clear F361; have z369 := hx366.size
      have b370 := (b363.ext hx366)
      have b371 := (b364.ext hx366)
      refine ⟨fun _ _ => ⟨(((((Ext.refl w235).trans hx330).trans hx341).trans hx359).trans hx366), b370, b371⟩, ?_⟩
      refine any_one (i := 12) (by decide +kernel) rfl ?_
      refine o_store (cells := (byteVals (tagged ([115, 101, 99, 114, 101, 116]) (sd ++ (two i) ++ ([(UInt8.ofNat j), (0 : UInt8)]))))) F368 rfl rfl rfl rfl (F368.get rfl) (F368.get rfl) b371 (inf37.trans (congrArg some (byteVals_len (tagged_len _ _)).symm)) ((byteVals_len (show List.length (List.replicate 32 0) = _ from List.length_replicate)).trans (byteVals_len (tagged_len _ _)).symm) (byteVals_one _) ?_
      intro w372 b373 hg374; have z375 := hg374.size
      refine ⟨fun h => absurd h (by decide), ?_⟩
      refine any_nil (by decide +kernel) ?_
      refine hK234 _ _ ?_
      clear hK234
      have F376 := (((((((F368.nil.c F368 8 rfl).c F368 7 rfl).c F368 6 rfl).c F368 3 rfl).c F368 2 rfl).c F368 1 rfl).c F368 0 rfl)
      clear F368
      refine wp_ret ?_
      refine retC F376 rfl rfl b373 Tryd.underlying37 rfl (inf37.trans (congrArg some (byteVals_len (tagged_len _ _)).symm)) ?_
      exact ⟨by subst hc25; rfl, (((((((((Ext.refl w).trans hx5).trans hx13).trans hx236).trans hx330).trans hx341).trans hx359).trans hx366).grownN hg374 (by omega))⟩
    refine qp 0 (.pointer (some ⟨g2, 0, none⟩)) F24 rfl rfl (fun W => (rn_field Tryd.underlying58 rfl (by kernel_rfl) (F24.get rfl) rfl)) fun _ F378 => ?_; clear F24
    have b380 := ((b4.ext hx13).ext hx236)
    have b381 := (b12.ext hx236)
    have hS379 : Ext w235 w235 ∧ Blk w235 g2 58 [(.slice A sd.length c), (.int .i64 (i : Nat))] ∧ Blk w235 g10 37 (byteVals (List.replicate 32 0)) := ⟨(Ext.refl w235), b380, b381⟩
    refine qs 1 (.slice A sd.length c) F378 rfl rfl hS379 (fun W hW => (rn_load (isAgg_no Tryd.underlying22 rfl) (F378.get rfl) (hW.2.1.rule.1 0))) fun _ F383 => ?_; clear F378
    refine qp 2 (.pointer (some ⟨g2, 1, none⟩)) F383 rfl rfl (fun W => (rn_field Tryd.underlying58 rfl (by kernel_rfl) (F383.get rfl) rfl)) fun _ F385 => ?_; clear F383
    refine qs 3 (.int .i64 (i : Nat)) F385 rfl rfl hS379 (fun W hW => (rn_load (isAgg_no Tryd.underlying3 rfl) (F385.get rfl) (hW.2.1.rule.1 1))) fun _ F387 => ?_; clear F385
    refine qp 5 (.int .i64 (j : Nat)) F387 rfl rfl (fun W => (rn_move (F387.get rfl))) fun _ F389 => ?_; clear F387
    refine qs 6 (.int .u8 ((UInt8.ofNat j).toNat : Nat)) F389 rfl rfl hS379 (fun W hW => (rn_convW Tryd.underlying3 Tryd.underlying5 (F389.get rfl) (cvi_8 j))) fun _ F391 => ?_; clear F389
    refine qp 7 (.int .u8 0) F391 rfl rfl (fun W => (rn_move (F391.get rfl))) fun _ F393 => ?_; clear F391
    refine any_two (i := 4) (k := 8) (by decide +kernel) rfl rfl ?_ ?_
    · skip
      refine o_call F393 rfl rfl rfl rfl (rn_call (args1 (F393.get rfl)) rfl (by kernel_rfl)) (two_any i _ (by omega)) ?_
      rintro _ w398 ⟨A394, c395, rfl, hf396, hx399⟩
      have z397 := (Fl.cel hf396).2.1
      refine ⟨_, rfl, ?_⟩; intro a400 F401; clear F393; have z402 := hx399.size
      have hf403 : Fl (Clip (fun b => w235.heap.size ≤ b) w398) w398 1 (.slice A394 2 c395) 2 (byteVals (two i)) := hf396.clip
      have b404 := (b380.ext hx399)
      have b405 := (b381.ext hx399)
      refine ⟨fun _ _ => ⟨((Ext.refl w235).trans hx399), b404, b405⟩, ?_⟩
      refine any_one (i := 8) (by decide +kernel) rfl ?_
      refine o_new (fun g => (.slice (some ⟨g, 0, none⟩) 2 2)) [(.int .u8 ((UInt8.ofNat j).toNat : Nat)), (.int .u8 0)] 5 F401 rfl rfl rfl rfl (rn_buildSlice (parts2 (F401.get rfl) (F401.get rfl)) (by kernel_rfl)) ?_
      intro g406 w407 a412 F413 z410 z411 b408 hx409; clear F401
      have b414 := (b404.ext hx409)
      have b415 := (b405.ext hx409)
      refine ⟨fun _ _ => ⟨(((Ext.refl w235).trans hx399).trans hx409), b414, b415⟩, ?_⟩
      have d416 := (hf403.ext hx409)
      exact st326 _ _ ⟨A394, c395, g406, ((((((((((F413.nil.c F413 17 rfl).c F413 13 rfl).c F413 10 rfl).c F413 8 rfl).c F413 7 rfl).c F413 6 rfl).c F413 3 rfl).c F413 2 rfl).c F413 1 rfl).c F413 0 rfl), (((Ext.refl w235).trans hx399).trans hx409), b408, (by omega), (Fl.sub d416 (fun b hb => by first | omega | (simp only [Clip] at hb; omega)))⟩
    · skip
      refine o_new (fun g => (.slice (some ⟨g, 0, none⟩) 2 2)) [(.int .u8 ((UInt8.ofNat j).toNat : Nat)), (.int .u8 0)] 5 F393 rfl rfl rfl rfl (rn_buildSlice (parts2 (F393.get rfl) (F393.get rfl)) (by kernel_rfl)) ?_
      intro g417 w418 a423 F424 z421 z422 b419 hx420; clear F393
      have b425 := (b380.ext hx420)
      have b426 := (b381.ext hx420)
      refine ⟨fun _ _ => ⟨((Ext.refl w235).trans hx420), b425, b426⟩, ?_⟩
      refine any_one (i := 4) (by decide +kernel) rfl ?_
      refine o_call F424 rfl rfl rfl rfl (rn_call (args1 (F424.get rfl)) rfl (by kernel_rfl)) (two_any i _ (by omega)) ?_
      rintro _ w431 ⟨A427, c428, rfl, hf429, hx432⟩
      have z430 := (Fl.cel hf429).2.1
      refine ⟨_, rfl, ?_⟩; intro a433 F434; clear F424; have z435 := hx432.size
      have hf436 : Fl (Clip (fun b => w418.heap.size ≤ b) w431) w431 1 (.slice A427 2 c428) 2 (byteVals (two i)) := hf429.clip
      have b437 := (b425.ext hx432)
      have b438 := (b426.ext hx432)
      refine ⟨fun _ _ => ⟨(((Ext.refl w235).trans hx420).trans hx432), b437, b438⟩, ?_⟩
      have b439 := (b419.ext hx432)
      exact st326 _ _ ⟨A427, c428, g417, ((((((((((F434.nil.c F434 17 rfl).c F434 13 rfl).c F434 10 rfl).c F434 8 rfl).c F434 7 rfl).c F434 6 rfl).c F434 3 rfl).c F434 2 rfl).c F434 1 rfl).c F434 0 rfl), (((Ext.refl w235).trans hx420).trans hx432), b439, (by omega), (Fl.sub hf436 (fun b hb => by first | omega | (simp only [Clip] at hb; omega)))⟩

theorem secret_at {v : Value} {m : Nat} (sd : List UInt8) (i j : Nat) (b : Bool) (w : World) (hf : Fl S w 1 v m (byteVals sd)) (hG : Glob w) (hsd : m ≤ 4194304) (hi : i < 65536) (hj : j < 256) :
    Calls Tryd.prog 35 #[.agg #[v, .int .i64 (i : Nat)], .int .i64 (j : Nat), .bool b] w (fun e w' => e = .returned (.agg (byteVals (secretD sd i j b)).toArray) ∧ Ext w w') := by
  have hm := hf.blen
  subst hm
  obtain ⟨A, c, rfl, _⟩ := hf.form
  exact secret_any A c sd i j b w hf hG hsd hi hj

set_option maxRecDepth 100000 in
set_option maxHeartbeats 1000000 in
theorem hash_any (A : Option Addr) (c : Nat) (sd : List UInt8) (i j : Nat) (b : Bool) (w : World) (hf : Fl S w 1 (.slice A sd.length c) sd.length (byteVals sd)) (hG : Glob w) (hsd : sd.length ≤ 4194304) (hi : i < 65536) (hj : j < 256) :
    Calls Tryd.prog 36 #[.agg #[.slice A sd.length c, .int .i64 (i : Nat)], .int .i64 (j : Nat), .bool b] w (fun e w' => e = .returned (.agg (byteVals (hashD sd i j b)).toArray) ∧ Ext w w') := by
  have hc : Fl (Clip S w) w 1 (.slice A sd.length c) sd.length (byteVals sd) := hf.clip
  have hcc := (Fl.cel hc).2.1
  refine calls_enter (l := [(.agg #[(.slice A sd.length c), (.int .i64 (i : Nat))]), (.int .i64 (j : Nat)), (.bool b)]) Tryd.func36 rfl rfl rfl (fun aA hF => ?_)
  refine wp_seq_k (fun K1 hK1 => ?_)
  refine wp_region_lit ?_
  refine wpl_op (i := 0) rfl (o_new (fun g => (.pointer (some ⟨g, 0, none⟩))) [(.slice A sd.length c), (.int .i64 (i : Nat))] 58 hF rfl rfl rfl rfl (rn_box (hF.get rfl) (by kernel_rfl)) ?_)
  intro g2 w3 a8 F9 z6 z7 b4 hx5; clear hF
  refine wpl_op (i := 1) rfl (o_new (fun g => (.pointer (some ⟨g, 0, none⟩))) (byteVals (List.replicate 32 0)) 37 F9 rfl rfl rfl rfl (by kernel_rfl) ?_)
  intro g10 w11 a16 F17 z14 z15 b12 hx13; clear F9
  refine wpList_nil ?_
  refine hK1 _ _ ?_
  clear hK1
  refine wp_seq_k (fun K18 hK18 => ?_)
  refine wp_region_lit ?_
  have b19 := (b4.ext hx13)
  refine qv 0 (.agg #[(.slice A sd.length c), (.int .i64 (i : Nat))]) F17 rfl (rn_loadBlk (F17.get rfl) b19 Tryd.underlying58 rfl inf58) fun _ F21 => ?_; clear F17
  refine qv 1 (.int .i64 (j : Nat)) F21 rfl (rn_move (F21.get rfl)) fun _ F23 => ?_; clear F21
  refine qv 2 (.bool b) F23 rfl (rn_move (F23.get rfl)) fun _ F25 => ?_; clear F23
  have d26 := ((hc.ext hx5).ext hx13)
  refine wpl_op (i := 3) rfl (o_call F25 rfl rfl rfl rfl (rn_call (args3 (F25.get rfl) (F25.get rfl) (F25.get rfl)) rfl (by kernel_rfl)) (secret_at (v := (.slice A sd.length c)) (m := sd.length) sd i j b _ d26 (hG.ext (((Ext.refl w).trans hx5).trans hx13)) (by omega) (by omega) (by omega)) ?_)
  rintro _ w27 ⟨rfl, hx28⟩
  refine ⟨_, rfl, ?_⟩; intro a29 F30; clear F25; have z31 := hx28.size
  refine wpl_op (i := 4) rfl (o_call F30 rfl rfl rfl rfl (rn_call (args1 (F30.get rfl)) rfl (by kernel_rfl)) (open_any (secretD sd i j b) _ (secretD_len _ _ _ _) (hG.ext ((((Ext.refl w).trans hx5).trans hx13).trans hx28))) ?_)
  rintro _ w32 ⟨rfl, hx33⟩
  refine ⟨_, rfl, ?_⟩; intro a34 F35; clear F30; have z36 := hx33.size
  have b40 := ((b12.ext hx28).ext hx33)
  refine wpl_op (i := 5) rfl (o_store (cells := (byteVals (openD (secretD sd i j b)))) F35 rfl rfl rfl rfl (F35.get rfl) (F35.get rfl) b40 (inf37.trans (congrArg some (byteVals_len (openD_len _)).symm)) ((byteVals_len (show List.length (List.replicate 32 0) = _ from List.length_replicate)).trans (byteVals_len (openD_len _)).symm) (byteVals_one _) ?_)
  intro w37 b38 hg39; have z41 := hg39.size
  refine wpList_nil ?_
  refine hK18 _ _ ?_
  clear hK18
  have F42 := (((((F35.nil.c F35 6 rfl).c F35 3 rfl).c F35 2 rfl).c F35 1 rfl).c F35 0 rfl)
  clear F35
  refine wp_ret ?_
  refine retC F42 rfl rfl b38 Tryd.underlying37 rfl (inf37.trans (congrArg some (byteVals_len (openD_len _)).symm)) ?_
  exact ⟨rfl, ((((((Ext.refl w).trans hx5).trans hx13).trans hx28).trans hx33).grownN hg39 (by omega))⟩

theorem hash_at {v : Value} {m : Nat} (sd : List UInt8) (i j : Nat) (b : Bool) (w : World) (hf : Fl S w 1 v m (byteVals sd)) (hG : Glob w) (hsd : m ≤ 4194304) (hi : i < 65536) (hj : j < 256) :
    Calls Tryd.prog 36 #[.agg #[v, .int .i64 (i : Nat)], .int .i64 (j : Nat), .bool b] w (fun e w' => e = .returned (.agg (byteVals (hashD sd i j b)).toArray) ∧ Ext w w') := by
  have hm := hf.blen
  subst hm
  obtain ⟨A, c, rfl, _⟩ := hf.form
  exact hash_any A c sd i j b w hf hG hsd hi hj

end Go.Proofs.YtmjgjopbeokajaaDoor

namespace Go.Proofs.YtmjgjopbeokajaaDoor
open Go.RowKit

variable {S S' : Nat → Prop}
theorem eqnilBy (w : World) (A : Option Addr) (n c : Nat) : (binOp .eql 22 (.slice A n c) (.slice none 0 0)).run Tryd.prog w = .ok (.bool A.isNone) w := Lib.run_eql_slice_nil w _ _ A n c 0 0 Tryd.underlying22
attribute [local go_sem] eqnilBy
set_option maxRecDepth 100000 in
set_option maxHeartbeats 1000000 in
theorem cloneBy_any (A : Option Addr) (n cap : Nat) (xs : List Value) (w : World) (hc : Cel w 1 A n xs) (hn : n ≤ 140737488355328) :
    Calls Tryd.prog 48 #[.slice A n cap] w (fun en w' => ∃ v, en = .returned v ∧ w'.ownsRow w.heap.size 5 1 v n xs ∧ Ext w w') := by
  rcases A with _ | ad
  · have hn0 : n = 0 := by
      rcases Nat.eq_zero_or_pos n with h | h
      · exact h
      · obtain ⟨b, off, h, _⟩ := hc.2.2 h; cases h
    subst hn0
    have hx : xs = [] := List.eq_nil_of_length_eq_zero (by have := hc.1; omega)
    have HX := Lib.hid hx
    clear hx hc
    go_enter Tryd.func48, Tryd.ntmps48
    go_wp2
    go_ret
    exact ⟨_, rfl, by rw [HX.out]; exact World.ownsRow_nil _ _ _ _, Ext.refl _⟩
  · have HC := Lib.hid hc
    clear hc
    go_enter Tryd.func48, Tryd.ntmps48
    go_wp2_with (with_reducible refine stop_append ?_)
    refine Lib.hid (wpList_app El22 rfl rfl rfl rfl (World.ownsRow_lit w #[] 0 (Nat.le_refl _) (Nat.zero_le _) (by simp)) (HC.out.ext ((Ext.refl _).alloc _)) (by simp) (by omega) (by omega) ?_)
    intro v' w' hown hg hat
    have HO := Lib.hid hown
    have HE : Hid (Ext w w') := ((Ext.refl w).alloc _).grown hg (fun k hk => by have hk : some w.heap.size = some k := hk; injection hk; omega)
    clear hown hg hat
    go_wp2
    go_ret
    exact ⟨_, rfl, by simpa using HO.out, HE.out⟩
theorem clone_at {v : Value} {n : Nat} (l : List UInt8) (w : World) (hf : Fl S w 1 v n (byteVals l)) (hn : n ≤ 140737488355328) :
    Calls Tryd.prog 48 #[v] w (fun en w' => ∃ A c, en = .returned (.slice A n c) ∧ Fl (fun b => w.heap.size ≤ b) w' 1 (.slice A n c) n (byteVals l) ∧ Ext w w') := by
  obtain ⟨A, c, rfl, _⟩ := hf.form
  refine (cloneBy_any A n c _ w hf.cel.2.2 hn).mono fun e w' ⟨u, he, ho, hx⟩ => ?_
  have h := Fl.own (S := fun b => w.heap.size ≤ b) ho (fun b hb => hb) (byteVals_one l)
  obtain ⟨A', c', rfl, _⟩ := h.form
  exact ⟨A', c', he, h, hx⟩

end Go.Proofs.YtmjgjopbeokajaaDoor

namespace Go.Proofs.YtmjgjopbeokajaaDoor
open Go.RowKit

variable {S S' : Nat → Prop}

def newS (sd : List UInt8) (many : Int) : List UInt8 := if kOk sd many 0 = true then sd else []
def newM (sd : List UInt8) (many : Int) : Int := if kOk sd many 0 = true then many else 0
def newE (sd : List UInt8) (many : Int) : Int := if kOk sd many 0 = true then 0 else 40

set_option maxRecDepth 100000 in
set_option maxHeartbeats 1000000 in
theorem new_any (A : Option Addr) (c : Nat) (sd : List UInt8) (many : Int) (w : World) (hf : Fl S w 1 (.slice A sd.length c) sd.length (byteVals sd)) (hsd : sd.length ≤ 140737488355328) :
    Calls Tryd.prog 20 #[.slice A sd.length c, .int .i64 many] w (fun e w' => ∃ A m c, e = .returned (.tuple #[.agg #[.slice A m c, .int .i64 (newM sd many), .int .i64 0], .int .i64 (newE sd many)]) ∧ Fl (fun b => w.heap.size ≤ b) w' 1 (.slice A m c) m (byteVals (newS sd many)) ∧ Ext w w') := by
  have hc : Fl (Clip S w) w 1 (.slice A sd.length c) sd.length (byteVals sd) := hf.clip
  have hcc := (Fl.cel hc).2.1
  refine calls_enter (l := [(.slice A sd.length c), (.int .i64 many)]) Tryd.func20 rfl rfl rfl (fun aA hF => ?_)
  refine wp_seq_k (fun K1 hK1 => ?_)
  refine wp_region_lit ?_
  refine wpl_op (i := 0) rfl (o_new (fun g => (.pointer (some ⟨g, 0, none⟩))) [(.slice none 0 0), (.int .i64 0), (.int .i64 0)] 24 hF rfl rfl rfl rfl (by kernel_rfl) ?_)
  intro g2 w3 a8 F9 z6 z7 b4 hx5; clear hF
  refine qv 1 (.int .i64 0) F9 rfl (rn_assign rfl) fun _ F11 => ?_; clear F9
  refine wpList_nil ?_
  refine hK1 _ _ ?_
  clear hK1
  refine wp_seq_k (fun K12 hK12 => ?_)
  refine wp_region_lit ?_
  refine qv 0 (.slice A sd.length c) F11 rfl (rn_move (F11.get rfl)) fun _ F14 => ?_; clear F11
  have d15 := (hc.ext hx5)
  refine wpl_op (i := 1) rfl (o_call F14 rfl rfl rfl rfl (rn_call (args1 (F14.get rfl)) rfl (by kernel_rfl)) (clone_at (v := (.slice A sd.length c)) (n := sd.length) sd _ d15 (by omega)) ?_)
  rintro _ w20 ⟨A16, c17, rfl, hf18, hx21⟩
  have z19 := (Fl.cel hf18).2.1
  refine ⟨_, rfl, ?_⟩; intro a22 F23; clear F14; have z24 := hx21.size
  have hf25 : Fl (Clip (fun b => w3.heap.size ≤ b) w20) w20 1 (.slice A16 sd.length c17) sd.length (byteVals sd) := hf18.clip
  refine qv 2 (.int .i64 many) F23 rfl (rn_move (F23.get rfl)) fun _ F27 => ?_; clear F23
  refine qv 3 (.agg #[(.slice A16 sd.length c17), (.int .i64 many), (.int .i64 0)]) F27 rfl (rn_build (parts2 (F27.get rfl) (F27.get rfl)) (by kernel_rfl)) fun _ F29 => ?_; clear F27
  refine wpl_op (i := 4) rfl (o_new (fun g => (.pointer (some ⟨g, 0, none⟩))) [(.slice none 0 0), (.int .i64 0), (.int .i64 0)] 24 F29 rfl rfl rfl rfl (by kernel_rfl) ?_)
  intro g30 w31 a36 F37 z34 z35 b32 hx33; clear F29
  refine wpl_op (i := 5) rfl (o_store (cells := [(.slice A16 sd.length c17), (.int .i64 many), (.int .i64 0)]) F37 rfl rfl rfl rfl (F37.get rfl) (F37.get rfl) b32 inf24 rfl (by simp [Value.oneCell']) ?_)
  intro w38 b39 hg40; have z41 := hg40.size
  refine wpList_nil ?_
  refine hK12 _ _ ?_
  clear hK12
  have F42 := (((((F37.nil.c F37 6 rfl).c F37 5 rfl).c F37 4 rfl).c F37 1 rfl).c F37 0 rfl)
  clear F37
  refine wp_seq_k (fun K43 hK43 => ?_)
  refine wp_seq_k (fun K44 hK44 => ?_)
  refine wp_region_lit ?_
  refine qv 0 (.agg #[(.slice A16 sd.length c17), (.int .i64 many), (.int .i64 0)]) F42 rfl (rn_loadBlk (F42.get rfl) b39 Tryd.underlying24 rfl inf24) fun _ F46 => ?_; clear F42
  have d47 := (hf25.pres (((Pres.refl w20).ext hx33).grownN hg40 (fun h => by simp only [Clip] at h; omega)))
  refine wpl_op (i := 1) rfl (o_call F46 rfl rfl rfl rfl (rn_call (args1 (F46.get rfl)) rfl (by kernel_rfl)) (valid_at (v := (.slice A16 sd.length c17)) (m := sd.length) sd many 0 _ d47) ?_)
  rintro _ w48 ⟨rfl, hx49⟩
  refine ⟨_, rfl, ?_⟩; intro a50 F51; clear F46; have z52 := hx49.size
  refine qv 2 (.bool (!(kOk sd many 0))) F51 rfl (rn_not' (F51.get rfl) rfl) fun _ F54 => ?_; clear F51
  refine wpList_nil ?_
  refine hK44 _ _ ?_
  clear hK44
  rcases Bool.eq_false_or_eq_true (kOk sd many 0) with hc55 | hc55
  · skip
    refine wp_cond_false (c_false F54 rfl (not_t hc55)) ?_
    refine wp_skip ?_
    refine hK43 _ _ ?_
    clear hK43
    refine wp_seq_k (fun K56 hK56 => ?_)
    refine wp_region_lit ?_
    have b57 := (b39.ext hx49)
    refine qv 0 (.agg #[(.slice A16 sd.length c17), (.int .i64 many), (.int .i64 0)]) F54 rfl (rn_loadBlk (F54.get rfl) b57 Tryd.underlying24 rfl inf24) fun _ F59 => ?_; clear F54
    have b63 := ((((b4.ext hx21).ext hx33).grownN hg40 (by omega)).ext hx49)
    refine wpl_op (i := 1) rfl (o_store (cells := [(.slice A16 sd.length c17), (.int .i64 many), (.int .i64 0)]) F59 rfl rfl rfl rfl (F59.get rfl) (F59.get rfl) b63 inf24 rfl (by simp [Value.oneCell']) ?_)
    intro w60 b61 hg62; have z64 := hg62.size
    refine qv 2 (.int .i64 0) F59 rfl (rn_assign rfl) fun _ F66 => ?_; clear F59
    refine wpList_nil ?_
    refine hK56 _ _ ?_
    clear hK56
    refine wp_ret ?_
    refine retC1 F66 rfl rfl rfl b61 Tryd.underlying24 rfl inf24 ?_
    have d67 := (hf25.pres (((((Pres.refl w20).ext hx33).grownN hg40 (fun h => by simp only [Clip] at h; omega)).ext hx49).grownN hg62 (fun h => by simp only [Clip] at h; omega)))
    exact ⟨_, _, _, by rw [newM, newE, hc55]; rfl, by rw [newS, hc55]; exact Fl.sub d67 (fun b hb => by first | omega | (simp only [Clip] at hb; omega)), (((((((Ext.refl w).trans hx5).trans hx21).trans hx33).grownN hg40 (by omega)).trans hx49).grownN hg62 (by omega))⟩
  · skip
    refine wp_cond_true (c_true F54 rfl (not_f hc55)) ?_
    refine wp_seq_k (fun K68 hK68 => ?_)
    refine wp_region_lit ?_
    have b69 := ((((b4.ext hx21).ext hx33).grownN hg40 (by omega)).ext hx49)
    refine qv 0 (.agg #[(.slice none 0 0), (.int .i64 0), (.int .i64 0)]) F54 rfl (rn_loadBlk (F54.get rfl) b69 Tryd.underlying24 rfl inf24) fun _ F71 => ?_; clear F54
    refine wpl_op (i := 1) rfl (o_store (cells := [(.slice none 0 0), (.int .i64 0), (.int .i64 0)]) F71 rfl rfl rfl rfl (F71.get rfl) (F71.get rfl) b69 inf24 rfl (by simp [Value.oneCell']) ?_)
    intro w72 b73 hg74; have z75 := hg74.size
    refine qv 2 (.int .i64 40) F71 rfl (rn_assign rfl) fun _ F77 => ?_; clear F71
    refine wpList_nil ?_
    refine hK68 _ _ ?_
    clear hK68
    refine wp_ret ?_
    refine ret_then ?_
    refine retC1 F77 rfl rfl rfl b73 Tryd.underlying24 rfl inf24 ?_
    exact ⟨none, 0, 0, by rw [newM, newE, hc55]; rfl, by rw [newS, hc55]; exact Fl.nil _, (((((((Ext.refl w).trans hx5).trans hx21).trans hx33).grownN hg40 (by omega)).trans hx49).grownN hg74 (by omega))⟩

theorem new_at {v : Value} {m : Nat} (sd : List UInt8) (many : Int) (w : World) (hf : Fl S w 1 v m (byteVals sd)) (hsd : m ≤ 140737488355328) :
    Calls Tryd.prog 20 #[v, .int .i64 many] w (fun e w' => ∃ A m c, e = .returned (.tuple #[.agg #[.slice A m c, .int .i64 (newM sd many), .int .i64 0], .int .i64 (newE sd many)]) ∧ Fl (fun b => w.heap.size ≤ b) w' 1 (.slice A m c) m (byteVals (newS sd many)) ∧ Ext w w') := by
  have hm := hf.blen
  subst hm
  obtain ⟨A, c, rfl, _⟩ := hf.form
  exact new_any A c sd many w hf hsd

end Go.Proofs.YtmjgjopbeokajaaDoor

namespace Go.Proofs.YtmjgjopbeokajaaDoor
open Go.RowKit

variable {S S' : Nat → Prop}

set_option maxRecDepth 100000 in
set_option maxHeartbeats 1000000 in
theorem public_any (f : FuncId) (first cap : Array Value) (h : Nat → Bool → List UInt8) (w : World) (hen : ∀ (vs : Array Value) (W : World), (callFunc f vs).run Tryd.prog W = .ok (.enter f vs) W) (arg : Value → Value → Array Value) (harg : ∀ u v, (first ++ #[u, v]) ++ cap = arg u v)
    (hp : ∀ (j : Nat) (b : Bool) (W : World), j < 64 → Ext w W → Calls Tryd.prog f (arg (.int .i64 (j : Nat)) (.bool b)) W (fun e w' => e = .returned (.agg (byteVals (h j b)).toArray) ∧ Ext W w')) (hl : ∀ j b, j < 64 → (h j b).length = 32) (hG : Glob w) :
    Calls Tryd.prog 45 #[.func (.func f) first cap] w (fun e w' => e = .returned (.agg (byteVals (publicD h)).toArray) ∧ Ext w w') := by
  refine calls_enter (l := [(.func (.func f) first cap)]) Tryd.func45 rfl rfl rfl (fun aA hF => ?_)
  refine wp_seq_k (fun K1 hK1 => ?_)
  refine wp_region_lit ?_
  refine wpl_op (i := 0) rfl (o_new (fun g => (.pointer (some ⟨g, 0, none⟩))) (byteVals (List.replicate 32 0)) 37 hF rfl rfl rfl rfl (by kernel_rfl) ?_)
  intro g2 w3 a8 F9 z6 z7 b4 hx5; clear hF
  refine wpList_nil ?_
  refine hK1 _ _ ?_
  clear hK1
  refine wp_seq_k (fun K10 hK10 => ?_)
  refine wp_region_lit ?_
  refine wpl_op (i := 0) rfl (o_new (fun g => (.slice (some ⟨g, 0, none⟩) 0 4096)) (byteVals (List.replicate 4096 0)) 5 F9 rfl rfl rfl rfl (rn_makeC El22 rfl rfl rfl (by decide) (by decide) (by simp [byteVals])) ?_)
  intro g11 w12 a17 F18 z15 z16 b13 hx14; clear F9
  have hf19 := own_room (c := 4096) b13 (by rw [byteVals_len (show List.length (List.replicate 4096 (0 : UInt8)) = _ from List.length_replicate)]) (by decide)
  refine qv 1 (.slice (some ⟨g11, 0, none⟩) 0 4096) F18 rfl (rn_assign (F18.get rfl)) fun _ F21 => ?_; clear F18
  refine wpList_nil ?_
  refine hK10 _ _ ?_
  clear hK10
  refine wp_seq_k (fun K22 hK22 => ?_)
  refine wp_seq_k (fun K23 hK23 => ?_)
  refine wp_region_lit ?_
  refine qv 0 (.int .i64 0) F21 rfl (rn_move rfl) fun _ F25 => ?_; clear F21
  refine wpList_nil ?_
  refine hK23 _ _ ?_
  clear hK23
  refine wp_block ?_
  have b26 := (b4.ext hx14)
  refine wp_loop (fun a' W => ∃ (k : Nat) (Ap : Option Addr) (np : Nat) (cp : Nat) (l : List UInt8), Sl 25 [(0, (.func (.func f) first cap)), (2, (.pointer (some ⟨g2, 0, none⟩))), (3, (.slice Ap np cp)), (8, (.int .i64 (k : Nat)))] a' ∧ (k ≤ 64 ∧ np = 64 * k) ∧ l = manyD h k ∧ Ext w W ∧ Blk W g2 37 (byteVals (List.replicate 32 0)) ∧ W.ownsRow g11 5 1 (.slice Ap np cp) np (byteVals l) ∧ g11 ≤ W.heap.size ∧ w12.heap.size ≤ W.heap.size) (fun a' _ => 64 - (intOf (a'.eval (.tmp 8))).toNat) ⟨0, (some ⟨g11, 0, none⟩), 0, 4096, [], ((((F25.nil.cons (q_get F25 (t := 8) rfl (by first | rfl | (congr 1; omega) | (congr 1; done)))).cons (q_get F25 (t := 3) rfl (by first | rfl | (congr 1; omega) | (congr 1; done)))).cons (q_get F25 (t := 2) rfl rfl)).cons (q_get F25 (t := 0) rfl rfl)), ⟨by omega, by omega⟩, rfl, (((Ext.refl w).trans hx5).trans hx14), b26, hf19, (by omega), (Nat.le_refl _)⟩ ?_
  clear F25
  rintro a27 w28 ⟨k, Ap, np, cp, l, F29, hp31, hp32, hx30, b33, r34, hf35, hf36⟩
  have hL37 := F29
  have z38 := hx30.size
  have z39 := b33.lt
  have z40 := own_form0 r34
  refine wp_seq_k (fun K41 hK41 => ?_)
  refine wp_region_lit ?_
  refine qv 0 (.bool (decide (((k : Nat) : Int) < (64 : Int)))) F29 rfl (rn_lss (F29.get rfl) rfl) fun _ F43 => ?_; clear F29
  refine wpList_nil ?_
  refine hK41 _ _ ?_
  clear hK41
  refine wp_seq_k (fun K44 hK44 => ?_)
  by_cases hc45 : ((k : Nat) : Int) < (64 : Int)
  · skip
    refine wp_cond_true (c_true F43 rfl (decide_eq_true hc45)) ?_
    refine wp_skip ?_
    refine hK44 _ _ ?_
    clear hK44
    refine wp_seq_k (fun K46 hK46 => ?_)
    refine wp_block ?_
    refine wp_seq_k (fun K47 hK47 => ?_)
    refine wp_region_lit ?_
    refine qv 0 (.int .i64 (k : Nat)) F43 rfl (rn_move (F43.get rfl)) fun _ F49 => ?_; clear F43
    refine qv 1 (.int .i64 (k : Nat)) F49 rfl (rn_assign (F49.get rfl)) fun _ F51 => ?_; clear F49
    refine wpList_nil ?_
    refine hK47 _ _ ?_
    clear hK47
    refine wp_seq_k (fun K52 hK52 => ?_)
    refine wp_region_lit ?_
    refine qv 0 (.func (.func f) first cap) F51 rfl (rn_move (F51.get rfl)) fun _ F54 => ?_; clear F51
    refine qv 1 (.int .i64 (k : Nat)) F54 rfl (rn_move (F54.get rfl)) fun _ F56 => ?_; clear F54
    refine wpl_op (i := 2) rfl (o_call F56 rfl rfl rfl rfl (rn_callvc (F56.get rfl) (argsw_2 harg (F56.get rfl) rfl) (hen _ _)) (hp k false _ (by omega) ((Ext.refl w).trans hx30)) ?_)
    rintro _ w57 ⟨rfl, hx58⟩
    refine ⟨_, rfl, ?_⟩; intro a59 F60; clear F56; have z61 := hx58.size
    refine qv 3 (.func (.func f) first cap) F60 rfl (rn_move (F60.get rfl)) fun _ F63 => ?_; clear F60
    refine qv 4 (.int .i64 (k : Nat)) F63 rfl (rn_move (F63.get rfl)) fun _ F65 => ?_; clear F63
    refine wpl_op (i := 5) rfl (o_call F65 rfl rfl rfl rfl (rn_callvc (F65.get rfl) (argsw_2 harg (F65.get rfl) rfl) (hen _ _)) (hp k true _ (by omega) (((Ext.refl w).trans hx30).trans hx58)) ?_)
    rintro _ w66 ⟨rfl, hx67⟩
    refine ⟨_, rfl, ?_⟩; intro a68 F69; clear F65; have z70 := hx67.size
    refine wpl_op (i := 6) rfl (o_new (fun g => (.pointer (some ⟨g, 0, none⟩))) (byteVals (List.replicate 32 0)) 37 F69 rfl rfl rfl rfl (by kernel_rfl) ?_)
    intro g71 w72 a77 F78 z75 z76 b73 hx74; clear F69
    refine wpl_op (i := 7) rfl (o_new (fun g => (.pointer (some ⟨g, 0, none⟩))) (byteVals (List.replicate 32 0)) 37 F78 rfl rfl rfl rfl (by kernel_rfl) ?_)
    intro g79 w80 a85 F86 z83 z84 b81 hx82; clear F78
    have b90 := (b73.ext hx82)
    refine wpl_op (i := 8) rfl (o_store (cells := (byteVals (h k false))) F86 rfl rfl rfl rfl (F86.get rfl) (F86.get rfl) b90 (inf37.trans (congrArg some (byteVals_len (hl k false (by omega))).symm)) ((byteVals_len (show List.length (List.replicate 32 0) = _ from List.length_replicate)).trans (byteVals_len (hl k false (by omega))).symm) (byteVals_one _) ?_)
    intro w87 b88 hg89; have z91 := hg89.size
    have b95 := (b81.grownN hg89 (by omega))
    refine wpl_op (i := 9) rfl (o_store (cells := (byteVals (h k true))) F86 rfl rfl rfl rfl (F86.get rfl) (F86.get rfl) b95 (inf37.trans (congrArg some (byteVals_len (hl k true (by omega))).symm)) ((byteVals_len (show List.length (List.replicate 32 0) = _ from List.length_replicate)).trans (byteVals_len (hl k true (by omega))).symm) (byteVals_one _) ?_)
    intro w92 b93 hg94; have z96 := hg94.size
    refine wpList_nil ?_
    refine hK52 _ _ ?_
    clear hK52
    have F97 := ((((((((F86.nil.c F86 6 rfl).c F86 5 rfl).c F86 4 rfl).c F86 9 rfl).c F86 8 rfl).c F86 3 rfl).c F86 2 rfl).c F86 0 rfl)
    clear F86
    have hx99 : ∃ W, w92.drew = W ∧ Ext w92 W := ⟨_, rfl, (Ext.refl _).drew⟩
    obtain ⟨w98, e100, hx99⟩ := hx99
    have z101 := hx99.size
    refine any_start (fun W => True ∧ Blk W g71 37 (byteVals (h k false)) ∧ Blk W g79 37 (byteVals (h k true))) (fun i => false) 6 #[false, false, false, false, false, false] rfl rfl rfl ?_
    rw [e100]; clear e100
    refine qp 0 (.slice Ap np cp) F97 rfl rfl (fun W => (rn_move (F97.get rfl))) fun _ F103 => ?_; clear F97
    refine qp 1 (.slice (some ⟨g71, 0, none⟩) 32 32) F103 rfl rfl (fun W => (rn_arrAll Tryd.underlying37 inf5 (F103.get rfl))) fun _ F105 => ?_; clear F103
    refine qp 3 (.slice (some ⟨g79, 0, none⟩) 32 32) F105 rfl rfl (fun W => (rn_arrAll Tryd.underlying37 inf5 (F105.get rfl))) fun _ F107 => ?_; clear F105
    refine any_one (i := 2) (by decide +kernel) rfl ?_
    have r108 := (own_ext (own_grownT (own_grownT (own_ext (own_ext (own_ext (own_ext r34 hx58) hx67) hx74) hx82) b90 hg89 (by decide)) b95 hg94 (by decide)) hx99)
    have b109 := ((b88.grownN hg94 (by omega)).ext hx99)
    have hf118 := r108
    refine o_appB (zs := byteVals (l ++ (h k false))) El22 F107 rfl rfl rfl rfl rfl (F107.get rfl) (F107.get rfl) hf118 (Fl.cel (Fl.blk (S := fun b => b = g71) (k := 1) (n := 32) (c := 32) b109 (by rw [byteVals_len (hl k false (by omega)), Nat.mul_one]) (byteVals_one _) (by omega) rfl)).2.2 (by omega) (by omega) (by omega) (byteVals_app _ _) ?_
    intro A110 c111 w112 a119 F120 r113 hg114 z115 z116 hnb117; clear F107; have z121 := hg114.size
    have b122 := (grown_blk hf118 hg114 b109 (by decide))
    have b123 := (grown_blk hf118 hg114 (b93.ext hx99) (by decide))
    refine ⟨fun _ _ => ⟨trivial, b122, b123⟩, ?_⟩
    refine any_one (i := 4) (by decide +kernel) rfl ?_
    have hf132 := r113
    refine o_appB (zs := byteVals ((l ++ (h k false)) ++ (h k true))) El22 F120 rfl rfl rfl rfl rfl (F120.get rfl) (F120.get rfl) hf132 (Fl.cel (Fl.blk (S := fun b => b = g79) (k := 1) (n := 32) (c := 32) b123 (by rw [byteVals_len (hl k true (by omega)), Nat.mul_one]) (byteVals_one _) (by omega) rfl)).2.2 (by omega) (by omega) (by omega) (byteVals_app _ _) ?_
    intro A124 c125 w126 a133 F134 r127 hg128 z129 z130 hnb131; clear F120; have z135 := hg128.size
    have b136 := (grown_blk hf132 hg128 b122 (by decide))
    have b137 := (grown_blk hf132 hg128 b123 (by decide))
    refine ⟨fun _ _ => ⟨trivial, b136, b137⟩, ?_⟩
    refine qp 5 (.slice A124 ((np + 32) + 32) c125) F134 rfl rfl (fun W => (rn_assign (F134.get rfl))) fun _ F139 => ?_; clear F134
    refine any_nil (by decide +kernel) ?_
    refine hK46 _ _ ?_
    clear hK46
    have F140 := ((((((((F139.nil.c F139 6 rfl).c F139 5 rfl).c F139 4 rfl).c F139 9 rfl).c F139 8 rfl).c F139 3 rfl).c F139 2 rfl).c F139 0 rfl)
    clear F139
    refine wp_region_lit ?_
    refine qv 0 (.int .i64 (k + 1 : Nat)) F140 rfl (rn_addN (a := k) (b := 1) (F140.get rfl) rfl (by omega)) fun _ F142 => ?_; clear F140
    refine qv 1 (.int .i64 (k + 1 : Nat)) F142 rfl (rn_move (F142.get rfl)) fun _ F144 => ?_; clear F142
    refine wpList_nil ?_
    have b145 := (grown_blk hf132 hg128 (grown_blk hf118 hg114 (((((((b33.ext hx58).ext hx67).ext hx74).ext hx82).grownN hg89 (by omega)).grownN hg94 (by omega)).ext hx99) (by decide)) (by decide))
    refine ⟨⟨(k + 1), A124, (np + 32) + 32, c125, (l ++ (h k false)) ++ (h k true), ((((F144.nil.cons (q_get F144 (t := 8) rfl (by first | rfl | (congr 1; omega) | (congr 1; done)))).cons (q_get F144 (t := 3) rfl (by first | rfl | (congr 1; omega) | (congr 1; done)))).cons (q_get F144 (t := 2) rfl rfl)).cons (q_get F144 (t := 0) rfl rfl)), ⟨by omega, by omega⟩, (by rw [hp32]; exact manyD_step h k), (ext_row (ext_row (((((((((Ext.refl w).trans hx30).trans hx58).trans hx67).trans hx74).trans hx82).grownN hg89 (by omega)).grownN hg94 (by omega)).trans hx99) hg114 hf118 (by omega)) hg128 hf132 (by omega)), b145, r127, (by omega), (by omega)⟩, ?_⟩
    rw [F144.get (t := 8) rfl, hL37.get (t := 8) rfl]; simp [intOf] <;> omega
  · skip
    refine wp_cond_false (c_false F43 rfl (decide_eq_false hc45)) ?_
    refine wp_exit ?_
    refine exit_then ?_
    refine exit_then ?_
    refine exit_here ?_
    refine hK22 _ _ ?_
    clear hK22
    refine wp_seq_k (fun K146 hK146 => ?_)
    refine wp_region_lit ?_
    refine qv 0 (.slice Ap np cp) F43 rfl (rn_move (F43.get rfl)) fun _ F148 => ?_; clear F43
    refine wpl_op (i := 1) rfl (o_call F148 rfl rfl rfl rfl (rn_call (args2 rfl (F148.get rfl)) rfl (by kernel_rfl)) (tagged_at ([111, 110, 101]) (v := (.slice Ap np cp)) (n := np) l _ (Fl.own (S := fun b => g11 ≤ b) r34 (fun b hb => hb) (byteVals_one _)) (hG.ext ((Ext.refl w).trans hx30)) (by simp <;> omega) (by omega)) ?_)
    rintro _ w149 ⟨rfl, hx150⟩
    refine ⟨_, rfl, ?_⟩; intro a151 F152; clear F148; have z153 := hx150.size
    have b157 := (b33.ext hx150)
    refine wpl_op (i := 2) rfl (o_store (cells := (byteVals (tagged ([111, 110, 101]) l))) F152 rfl rfl rfl rfl (F152.get rfl) (F152.get rfl) b157 (inf37.trans (congrArg some (byteVals_len (tagged_len _ _)).symm)) ((byteVals_len (show List.length (List.replicate 32 0) = _ from List.length_replicate)).trans (byteVals_len (tagged_len _ _)).symm) (byteVals_one _) ?_)
    intro w154 b155 hg156; have z158 := hg156.size
    refine wpList_nil ?_
    refine hK146 _ _ ?_
    clear hK146
    refine wp_ret ?_
    refine retC F152 rfl rfl b155 Tryd.underlying37 rfl (inf37.trans (congrArg some (byteVals_len (tagged_len _ _)).symm)) ?_
    have hk : k = 64 := by omega
    subst hk
    exact ⟨by rw [publicD, ← hp32], ((((Ext.refl w).trans hx30).trans hx150).grownN hg156 (by omega))⟩

set_option maxRecDepth 100000 in
set_option maxHeartbeats 1000000 in
theorem publics_any (A : Option Addr) (c : Nat) (sd : List UInt8) (many : Nat) (used : Int) (w : World) (hf : Fl S w 1 (.slice A sd.length c) sd.length (byteVals sd)) (hG : Glob w) (hsd : sd.length ≤ 64) (hm : many ≤ 4096) :
    Calls Tryd.prog 31 #[.agg #[.slice A sd.length c, .int .i64 (many : Nat), .int .i64 used]] w (fun e w' => ∃ A c, e = .returned (.slice A many c) ∧ Fl (fun b => w.heap.size ≤ b) w' 32 (.slice A many c) many (digVals (pubsL sd many)) ∧ Ext w w') := by
  have hc : Fl (Clip S w) w 1 (.slice A sd.length c) sd.length (byteVals sd) := hf.clip
  have hcc := (Fl.cel hc).2.1
  refine calls_enter (l := [(.agg #[(.slice A sd.length c), (.int .i64 (many : Nat)), (.int .i64 used)])]) Tryd.func31 rfl rfl rfl (fun aA hF => ?_)
  refine wp_seq_k (fun K1 hK1 => ?_)
  refine wp_region_lit ?_
  refine wpl_op (i := 0) rfl (o_new (fun g => (.pointer (some ⟨g, 0, none⟩))) [(.slice A sd.length c), (.int .i64 (many : Nat)), (.int .i64 used)] 24 hF rfl rfl rfl rfl (rn_box (hF.get rfl) (by kernel_rfl)) ?_)
  intro g2 w3 a8 F9 z6 z7 b4 hx5; clear hF
  refine qv 1 (.slice none 0 0) F9 rfl (rn_assign rfl) fun _ F11 => ?_; clear F9
  refine wpList_nil ?_
  refine hK1 _ _ ?_
  clear hK1
  refine wp_seq_k (fun K12 hK12 => ?_)
  refine wp_seq_k (fun K13 hK13 => ?_)
  refine wp_region_lit ?_
  refine qv 0 (.pointer (some ⟨g2, 1, none⟩)) F11 rfl (rn_field Tryd.underlying24 rfl (by kernel_rfl) (F11.get rfl) rfl) fun _ F15 => ?_; clear F11
  refine qv 1 (.int .i64 (many : Nat)) F15 rfl (rn_load (isAgg_no Tryd.underlying3 rfl) (F15.get rfl) (b4.rule.1 1)) fun _ F17 => ?_; clear F15
  refine qv 2 (.int .i64 0) F17 rfl (rn_move rfl) fun _ F19 => ?_; clear F17
  refine wpList_nil ?_
  refine hK13 _ _ ?_
  clear hK13
  refine wp_block ?_
  refine wp_loop (fun a' W => ∃ (k : Nat) (Ap : Option Addr) (np : Nat) (cp : Nat) (l : List (List UInt8)), Sl 20 [(0, (.agg #[(.slice A sd.length c), (.int .i64 (many : Nat)), (.int .i64 used)])), (1, (.pointer (some ⟨g2, 0, none⟩))), (2, (.slice Ap np cp)), (5, (.int .i64 (many : Nat))), (6, (.int .i64 (k : Nat)))] a' ∧ (k ≤ many ∧ np = k) ∧ l = pubsL sd k ∧ Ext w W ∧ Blk W g2 24 [(.slice A sd.length c), (.int .i64 (many : Nat)), (.int .i64 used)] ∧ W.ownsRow w3.heap.size 37 32 (.slice Ap np cp) np (digVals l) ∧ w3.heap.size ≤ W.heap.size ∧ w3.heap.size ≤ W.heap.size) (fun a' _ => many - (intOf (a'.eval (.tmp 6))).toNat) ⟨0, none, 0, 0, [], (((((F19.nil.cons (q_get F19 (t := 6) rfl (by first | rfl | (congr 1; omega) | (congr 1; done)))).cons (q_get F19 (t := 5) rfl rfl)).cons (q_get F19 (t := 2) rfl (by first | rfl | (congr 1; omega) | (congr 1; done)))).cons (q_get F19 (t := 1) rfl rfl)).cons (q_get F19 (t := 0) rfl rfl)), ⟨by omega, by omega⟩, rfl, ((Ext.refl w).trans hx5), b4, (own_nil w3 w3.heap.size 37 32), (by omega), (Nat.le_refl _)⟩ ?_
  clear F19
  rintro a20 w21 ⟨k, Ap, np, cp, l, F22, hp24, hp25, hx23, b26, r27, hf28, hf29⟩
  have hL30 := F22
  have z31 := hx23.size
  have z32 := b26.lt
  have z33 := own_form0 r27
  have hl32 : All32 l := by rw [hp25]; exact pubsL_32 _ _
  refine wp_seq_k (fun K34 hK34 => ?_)
  refine wp_region_lit ?_
  refine qv 0 (.bool (decide (((k : Nat) : Int) < ((many : Nat) : Int)))) F22 rfl (rn_lss (F22.get rfl) (F22.get rfl)) fun _ F36 => ?_; clear F22
  refine wpList_nil ?_
  refine hK34 _ _ ?_
  clear hK34
  refine wp_seq_k (fun K37 hK37 => ?_)
  by_cases hc38 : ((k : Nat) : Int) < ((many : Nat) : Int)
  · skip
    refine wp_cond_true (c_true F36 rfl (decide_eq_true hc38)) ?_
    refine wp_skip ?_
    refine hK37 _ _ ?_
    clear hK37
    refine wp_seq_k (fun K39 hK39 => ?_)
    refine wp_block ?_
    refine wp_seq_k (fun K40 hK40 => ?_)
    refine wp_region_lit ?_
    refine qv 0 (.int .i64 (k : Nat)) F36 rfl (rn_move (F36.get rfl)) fun _ F42 => ?_; clear F36
    refine qv 1 (.int .i64 (k : Nat)) F42 rfl (rn_assign (F42.get rfl)) fun _ F44 => ?_; clear F42
    refine wpList_nil ?_
    refine hK40 _ _ ?_
    clear hK40
    refine wp_region_lit ?_
    refine qv 0 (.slice Ap np cp) F44 rfl (rn_move (F44.get rfl)) fun _ F46 => ?_; clear F44
    refine qv 1 (.pointer (some ⟨g2, 0, none⟩)) F46 rfl (rn_field Tryd.underlying24 rfl (by kernel_rfl) (F46.get rfl) rfl) fun _ F48 => ?_; clear F46
    refine qv 2 (.slice A sd.length c) F48 rfl (rn_load (isAgg_no Tryd.underlying22 rfl) (F48.get rfl) (b26.rule.1 0)) fun _ F50 => ?_; clear F48
    refine qv 3 (.int .i64 (k : Nat)) F50 rfl (rn_move (F50.get rfl)) fun _ F52 => ?_; clear F50
    refine qv 4 (.agg #[(.slice A sd.length c), (.int .i64 (k : Nat))]) F52 rfl (rn_build (parts2 (F52.get rfl) (F52.get rfl)) (by kernel_rfl)) fun _ F54 => ?_; clear F52
    refine qv 5 (.func (.func 36) #[(.agg #[(.slice A sd.length c), (.int .i64 (k : Nat))])] #[]) F54 rfl (rn_makeFunc (args1 (F54.get rfl)) (args0)) fun _ F56 => ?_; clear F54
    have d57 := (hc.ext hx23)
    have hf58 := d57
    have hf59 := (hG.ext ((Ext.refl w).trans hx23))
    refine wpl_op (i := 6) rfl (o_call F56 rfl rfl rfl rfl (rn_call (args1 (F56.get rfl)) rfl (by kernel_rfl)) (public_any 36 #[(.agg #[(.slice A sd.length c), (.int .i64 (k : Nat))])] #[] (hashD sd k) _ (fun _ _ => by kernel_rfl) (fun u v => #[(.agg #[(.slice A sd.length c), (.int .i64 (k : Nat))]), u, v]) (fun u v => by simp) (fun j b W hj hx => hash_at (v := (.slice A sd.length c)) (m := sd.length) sd k j b W (hf58.ext hx) (hf59.ext hx) (by omega) (by omega) (by omega)) (fun _ _ _ => hashD_len _ _ _ _) hf59) ?_)
    rintro _ w60 ⟨rfl, hx61⟩
    refine ⟨_, rfl, ?_⟩; intro a62 F63; clear F56; have z64 := hx61.size
    have r65 := (own_ext r27 hx61)
    have hf66 := r65
    refine wpl_op (i := 7) rfl (o_new (fun g => (.slice (some ⟨g, 0, none⟩) 1 1)) (byteVals ((publicD (hashD sd k)))) 37 F63 rfl rfl rfl rfl (rn_buildSlice (parts1 (F63.get rfl)) (build_wholeE (vs := [(.agg (byteVals (publicD (hashD sd k))).toArray)]) El28 rfl rfl (fun v hv => by rw [List.mem_singleton.1 hv]; exact (byteVals_len (publicD_len _))) (by decide) (by decide) (by simp [Value.cells, byteVals]))) ?_)
    intro g67 w68 a73 F74 z71 z72 b69 hx70; clear F63
    have nb75 := own_new (g := g67) hf66 (by omega)
    have r76 := (own_ext r65 hx70)
    have hf85 := r76
    have nb86 : some g67 ≠ (Value.slice Ap np cp).ownBlock := nb75
    have z87 := b69.lt
    refine wpl_op (i := 8) rfl (o_appB (zs := digVals (l ++ ([publicD (hashD sd k)]))) El28 F74 rfl rfl rfl rfl rfl (F74.get rfl) (F74.get rfl) hf85 (Fl.cel (Fl.digblk (S := fun b => b = g67) b69 (All32.sing (publicD_len _)) (by simp [digVals, byteVals]))).2.2 (by omega) (by omega) (by omega) (digVals_app _ _) ?_)
    intro A77 c78 w79 a88 F89 r80 hg81 z82 z83 hnb84; clear F74; have z90 := hg81.size
    have nb91 := hnb84 g67 (by omega) nb86
    refine qv 9 (.slice A77 (np + 1) c78) F89 rfl (rn_assign (F89.get rfl)) fun _ F93 => ?_; clear F89
    refine wpList_nil ?_
    refine hK39 _ _ ?_
    clear hK39
    have F94 := (((((((F93.nil.c F93 3 rfl).c F93 7 rfl).c F93 6 rfl).c F93 5 rfl).c F93 2 rfl).c F93 1 rfl).c F93 0 rfl)
    clear F93
    refine wp_region_lit ?_
    refine qv 0 (.int .i64 (k + 1 : Nat)) F94 rfl (rn_addN (a := k) (b := 1) (F94.get rfl) rfl (by omega)) fun _ F96 => ?_; clear F94
    refine qv 1 (.int .i64 (k + 1 : Nat)) F96 rfl (rn_move (F96.get rfl)) fun _ F98 => ?_; clear F96
    refine wpList_nil ?_
    have b99 := (grown_blk hf85 hg81 ((b26.ext hx61).ext hx70) (by decide))
    refine ⟨⟨(k + 1), A77, np + 1, c78, l ++ ([publicD (hashD sd k)]), (((((F98.nil.cons (q_get F98 (t := 6) rfl (by first | rfl | (congr 1; omega) | (congr 1; done)))).cons (q_get F98 (t := 5) rfl rfl)).cons (q_get F98 (t := 2) rfl (by first | rfl | (congr 1; omega) | (congr 1; done)))).cons (q_get F98 (t := 1) rfl rfl)).cons (q_get F98 (t := 0) rfl rfl)), ⟨by omega, by omega⟩, (by rw [hp25]; exact pubsL_step sd k), (ext_row ((((Ext.refl w).trans hx23).trans hx61).trans hx70) hg81 hf85 (by omega)), b99, r80, (by omega), (by omega)⟩, ?_⟩
    rw [F98.get (t := 6) rfl, hL30.get (t := 6) rfl]; simp [intOf] <;> omega
  · skip
    refine wp_cond_false (c_false F36 rfl (decide_eq_false hc38)) ?_
    refine wp_exit ?_
    refine exit_then ?_
    refine exit_then ?_
    refine exit_here ?_
    refine hK12 _ _ ?_
    clear hK12
    refine wp_seq_k (fun K100 hK100 => ?_)
    refine wp_region_lit ?_
    refine qv 0 (.slice Ap np cp) F36 rfl (rn_move (F36.get rfl)) fun _ F102 => ?_; clear F36
    refine qv 1 (.slice Ap np cp) F102 rfl (rn_assign (F102.get rfl)) fun _ F104 => ?_; clear F102
    refine wpList_nil ?_
    refine hK100 _ _ ?_
    clear hK100
    refine wp_ret ?_
    refine ret1 F104 rfl rfl ?_
    have hk : k = many := by omega
    have hrow := Fl.own (S := fun b => w.heap.size ≤ b) r27 (fun b hb => by omega) (digVals_one _)
    have hnp : np = many := by omega
    have hx := ((Ext.refl w).trans hx23)
    have hl := hp25
    subst hk
    subst hl
    subst hnp
    exact ⟨Ap, cp, rfl, hrow, hx⟩

theorem publics_at {v : Value} {m : Nat} (sd : List UInt8) (many : Nat) (used : Int) (w : World) (hf : Fl S w 1 v m (byteVals sd)) (hG : Glob w) (hsd : m ≤ 64) (hm : many ≤ 4096) :
    Calls Tryd.prog 31 #[.agg #[v, .int .i64 (many : Nat), .int .i64 used]] w (fun e w' => ∃ A c, e = .returned (.slice A many c) ∧ Fl (fun b => w.heap.size ≤ b) w' 32 (.slice A many c) many (digVals (pubsL sd many)) ∧ Ext w w') := by
  have hm := hf.blen
  subst hm
  obtain ⟨A, c, rfl, _⟩ := hf.form
  exact publics_any A c sd many used w hf hG hsd hm

end Go.Proofs.YtmjgjopbeokajaaDoor

namespace Go.Proofs.YtmjgjopbeokajaaDoor
open Go.RowKit

variable {S S' : Nat → Prop}

def pairsL (h : Nat → Bool → List UInt8) (k : Nat) : List (List UInt8) := (List.range k).flatMap fun j => [h j false, h j true]
theorem pairsL_step (h : Nat → Bool → List UInt8) (k : Nat) : pairsL h k ++ [h k false, h k true] = pairsL h (k + 1) := by
  rw [pairsL, pairsL, List.range_succ, List.flatMap_append, List.flatMap_cons, List.flatMap_nil, List.append_nil]
theorem pairsL_flat (h : Nat → Bool → List UInt8) : ∀ k, (pairsL h k).flatten = manyD h k
  | 0 => rfl
  | k + 1 => by rw [← pairsL_step, ← manyD_step, List.flatten_append, pairsL_flat h k]; simp
theorem flatten_step {l : List (List UInt8)} {k : Nat} {x : List UInt8} (h : k < l.length) (hx : x = (l.take k).flatten) : x ++ l.getD k [] = (l.take (k + 1)).flatten := by
  rw [hx, List.take_add_one, List.getD_eq_getElem?_getD, List.getElem?_eq_getElem h, List.flatten_append]; simp
set_option maxRecDepth 100000 in
set_option maxHeartbeats 1000000 in
theorem rone_any (A : Option Addr) (c : Nat) (l : List (List UInt8)) (w : World) (h32 : All32 l) (hf : Fl S w 32 (.slice A l.length c) l.length (digVals l)) (hb : l.length ≤ 128) :
    Calls Tryd.prog 47 #[.slice A l.length c] w (fun e w' => e = .returned (.agg (byteVals (tagged [111, 110, 101] l.flatten)).toArray) ∧ Ext w w') := by
  have hc : Fl (Clip S w) w 32 (.slice A l.length c) l.length (digVals l) := hf.clip
  have hcc := (Fl.cel hc).2.1
  refine calls_enter (l := [(.slice A l.length c)]) Tryd.func47 rfl rfl rfl (fun aA hF => ?_)
  refine wp_seq_k (fun K1 hK1 => ?_)
  refine wp_region_lit ?_
  refine wpl_op (i := 0) rfl (o_new (fun g => (.pointer (some ⟨g, 0, none⟩))) (byteVals (List.replicate 32 0)) 37 hF rfl rfl rfl rfl (by kernel_rfl) ?_)
  intro g2 w3 a8 F9 z6 z7 b4 hx5; clear hF
  refine wpList_nil ?_
  refine hK1 _ _ ?_
  clear hK1
  refine wp_seq_k (fun K10 hK10 => ?_)
  refine wp_region_lit ?_
  refine wpl_op (i := 0) rfl (o_new (fun g => (.slice (some ⟨g, 0, none⟩) 0 0)) [] 5 F9 rfl rfl rfl rfl (rn_buildSlice (parts0 ) (by kernel_rfl)) ?_)
  intro g11 w12 a17 F18 z15 z16 b13 hx14; clear F9
  refine qv 1 (.slice (some ⟨g11, 0, none⟩) 0 0) F18 rfl (rn_assign (F18.get rfl)) fun _ F20 => ?_; clear F18
  refine wpList_nil ?_
  refine hK10 _ _ ?_
  clear hK10
  refine wp_seq_k (fun K21 hK21 => ?_)
  refine wp_seq_k (fun K22 hK22 => ?_)
  refine wp_region_lit ?_
  refine qv 0 (.int .i64 0) F20 rfl (rn_assign rfl) fun _ F24 => ?_; clear F20
  refine wpList_nil ?_
  refine hK22 _ _ ?_
  clear hK22
  refine wp_block ?_
  have hf25 := own_blk0 (k := 1) b13
  have b26 := (b4.ext hx14)
  refine wp_loop (fun a' W => ∃ (k : Nat) (Ap : Option Addr) (np : Nat) (cp : Nat) (x : List UInt8), Sl 20 [(0, (.slice A l.length c)), (2, (.pointer (some ⟨g2, 0, none⟩))), (3, (.slice Ap np cp)), (4, (.int .i64 (k : Nat)))] a' ∧ (k ≤ l.length ∧ np = 32 * k) ∧ x = (l.take k).flatten ∧ Ext w W ∧ Blk W g2 37 (byteVals (List.replicate 32 0)) ∧ W.ownsRow g11 5 1 (.slice Ap np cp) np (byteVals x) ∧ g11 ≤ W.heap.size ∧ w12.heap.size ≤ W.heap.size) (fun a' _ => l.length - (intOf (a'.eval (.tmp 4))).toNat) ⟨0, (some ⟨g11, 0, none⟩), 0, 0, [], ((((F24.nil.cons (q_get F24 (t := 4) rfl (by first | rfl | (congr 1; omega) | (congr 1; done)))).cons (q_get F24 (t := 3) rfl (by first | rfl | (congr 1; omega) | (congr 1; done)))).cons (q_get F24 (t := 2) rfl rfl)).cons (q_get F24 (t := 0) rfl rfl)), ⟨by omega, by omega⟩, rfl, (((Ext.refl w).trans hx5).trans hx14), b26, hf25, (by omega), (Nat.le_refl _)⟩ ?_
  clear F24
  rintro a27 w28 ⟨k, Ap, np, cp, x, F29, hp31, hp32, hx30, b33, r34, hf35, hf36⟩
  have hL37 := F29
  have z38 := hx30.size
  have z39 := b33.lt
  have z40 := own_form0 r34
  refine wp_seq_k (fun K41 hK41 => ?_)
  refine wp_seq_k (fun K42 hK42 => ?_)
  refine wp_region_lit ?_
  refine qv 0 (.int .i64 (k : Nat)) F29 rfl (rn_move (F29.get rfl)) fun _ F44 => ?_; clear F29
  refine qv 1 (.slice A l.length c) F44 rfl (rn_move (F44.get rfl)) fun _ F46 => ?_; clear F44
  refine qv 2 (.int .i64 (l.length : Nat)) F46 rfl (rn_len_slice Tryd.underlying28 (F46.get rfl)) fun _ F48 => ?_; clear F46
  refine qv 3 (.bool (decide (((k : Nat) : Int) < ((l.length : Nat) : Int)))) F48 rfl (rn_lss (F48.get rfl) (F48.get rfl)) fun _ F50 => ?_; clear F48
  refine wpList_nil ?_
  refine hK42 _ _ ?_
  clear hK42
  by_cases hc51 : ((k : Nat) : Int) < ((l.length : Nat) : Int)
  · skip
    refine wp_cond_true (c_true F50 rfl (decide_eq_true hc51)) ?_
    refine wp_skip ?_
    refine hK41 _ _ ?_
    clear hK41
    refine wp_seq_k (fun K52 hK52 => ?_)
    refine wp_block ?_
    refine wp_region_lit ?_
    refine qv 0 (.slice Ap np cp) F50 rfl (rn_move (F50.get rfl)) fun _ F54 => ?_; clear F50
    refine qv 1 (.slice A l.length c) F54 rfl (rn_move (F54.get rfl)) fun _ F56 => ?_; clear F54
    refine qv 2 (.int .i64 (k : Nat)) F56 rfl (rn_move (F56.get rfl)) fun _ F58 => ?_; clear F56
    have d62 := (hc.ext hx30)
    obtain ⟨b59, o60, hA61, -⟩ := Fl.at d62 (by omega)
    refine qv 3 (.pointer (some ⟨b59, o60 + k * 32, none⟩)) F58 rfl (rn_indexE Tryd.underlying28 inf37 ((F58.get rfl).trans (by rw [hA61])) (F58.get rfl) (by omega : (0 : Int) ≤ (k : Nat)) (by omega : ((k : Nat) : Int) < ((l.length : Nat) : Int)) (by omega)) fun _ F64 => ?_; clear F58
    refine qv 4 (.slice (some ⟨b59, o60 + k * 32, none⟩) 32 32) F64 rfl (rn_arrAll Tryd.underlying37 inf5 (F64.get rfl)) fun _ F66 => ?_; clear F64
    have hf75 := r34
    refine wpl_op (i := 5) rfl (o_appB (zs := byteVals (x ++ (l.getD k []))) El22 F66 rfl rfl rfl rfl rfl (F66.get rfl) (F66.get rfl) hf75 (Fl.cel (Fl.digPart (i := k) d62 hA61 h32 (by omega) (by omega))).2.2 (by omega) (by omega) (by omega) (byteVals_app _ _) ?_)
    intro A67 c68 w69 a76 F77 r70 hg71 z72 z73 hnb74; clear F66; have z78 := hg71.size
    refine qv 6 (.slice A67 (np + 32) c68) F77 rfl (rn_assign (F77.get rfl)) fun _ F80 => ?_; clear F77
    refine wpList_nil ?_
    refine hK52 _ _ ?_
    clear hK52
    have F81 := (((((F80.nil.c F80 9 rfl).c F80 4 rfl).c F80 3 rfl).c F80 2 rfl).c F80 0 rfl)
    clear F80
    refine wp_region_lit ?_
    refine qv 0 (.int .i64 (k : Nat)) F81 rfl (rn_move (F81.get rfl)) fun _ F83 => ?_; clear F81
    refine qv 1 (.int .i64 (k + 1 : Nat)) F83 rfl (rn_addN (a := k) (b := 1) (F83.get rfl) rfl (by omega)) fun _ F85 => ?_; clear F83
    refine qv 2 (.int .i64 (k + 1 : Nat)) F85 rfl (rn_assign (F85.get rfl)) fun _ F87 => ?_; clear F85
    refine wpList_nil ?_
    have b88 := (grown_blk hf75 hg71 b33 (by decide))
    refine ⟨⟨(k + 1), A67, np + 32, c68, x ++ (l.getD k []), ((((F87.nil.cons (q_get F87 (t := 4) rfl (by first | rfl | (congr 1; omega) | (congr 1; done)))).cons (q_get F87 (t := 3) rfl (by first | rfl | (congr 1; omega) | (congr 1; done)))).cons (q_get F87 (t := 2) rfl rfl)).cons (q_get F87 (t := 0) rfl rfl)), ⟨by omega, by omega⟩, (flatten_step (by omega) hp32), (ext_row ((Ext.refl w).trans hx30) hg71 hf75 (by omega)), b88, r70, (by omega), (by omega)⟩, ?_⟩
    rw [F87.get (t := 4) rfl, hL37.get (t := 4) rfl]; simp [intOf] <;> omega
  · skip
    refine wp_cond_false (c_false F50 rfl (decide_eq_false hc51)) ?_
    refine wp_exit ?_
    refine exit_then ?_
    refine exit_then ?_
    refine exit_here ?_
    refine hK21 _ _ ?_
    clear hK21
    refine wp_seq_k (fun K89 hK89 => ?_)
    refine wp_region_lit ?_
    refine qv 0 (.slice Ap np cp) F50 rfl (rn_move (F50.get rfl)) fun _ F91 => ?_; clear F50
    refine wpl_op (i := 1) rfl (o_call F91 rfl rfl rfl rfl (rn_call (args2 rfl (F91.get rfl)) rfl (by kernel_rfl)) (rtagged_at ([111, 110, 101]) (v := (.slice Ap np cp)) (n := np) x _ (Fl.own (S := fun b => g11 ≤ b) r34 (fun b hb => hb) (byteVals_one _)) (by decide) (by omega)) ?_)
    rintro _ w92 ⟨rfl, hx93⟩
    refine ⟨_, rfl, ?_⟩; intro a94 F95; clear F91; have z96 := hx93.size
    have b100 := (b33.ext hx93)
    refine wpl_op (i := 2) rfl (o_store (cells := (byteVals (tagged ([111, 110, 101]) x))) F95 rfl rfl rfl rfl (F95.get rfl) (F95.get rfl) b100 (inf37.trans (congrArg some (byteVals_len (tagged_len _ _)).symm)) ((byteVals_len (show List.length (List.replicate 32 0) = _ from List.length_replicate)).trans (byteVals_len (tagged_len _ _)).symm) (byteVals_one _) ?_)
    intro w97 b98 hg99; have z101 := hg99.size
    refine wpList_nil ?_
    refine hK89 _ _ ?_
    clear hK89
    have F102 := (((((F95.nil.c F95 9 rfl).c F95 4 rfl).c F95 3 rfl).c F95 2 rfl).c F95 0 rfl)
    clear F95
    refine wp_ret ?_
    refine retC F102 rfl rfl b98 Tryd.underlying37 rfl (inf37.trans (congrArg some (byteVals_len (tagged_len _ _)).symm)) ?_
    have hk : k = l.length := by omega
    have hx0 := hp32
    rw [hk, List.take_length] at hx0
    subst hx0
    exact ⟨rfl, ((((Ext.refl w).trans hx30).trans hx93).grownN hg99 (by omega))⟩

theorem rone_at {v : Value} {m : Nat} (l : List (List UInt8)) (w : World) (h32 : All32 l) (hf : Fl S w 32 v m (digVals l)) (hb : m ≤ 128) :
    Calls Tryd.prog 47 #[v] w (fun e w' => e = .returned (.agg (byteVals (tagged [111, 110, 101] l.flatten)).toArray) ∧ Ext w w') := by
  have hm := Fl.dlen hf h32
  subst hm
  obtain ⟨A, c, rfl, _⟩ := hf.form
  exact rone_any A c l w h32 hf hb

end Go.Proofs.YtmjgjopbeokajaaDoor
