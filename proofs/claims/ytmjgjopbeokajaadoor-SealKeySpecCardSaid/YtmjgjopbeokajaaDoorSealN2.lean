/- The law SealKeySpec walked. -/
import Derived.Test.YtmjgjopbeokajaaDoorProg
import Derived.Test.YtmjgjopbeokajaaDoorBunJ
import Derived.KernelRfl
import Derived.Test.YtmjgjopbeokajaaDoorBunA
import Derived.Test.YtmjgjopbeokajaaDoorBunB
namespace Go.Proofs.YtmjgjopbeokajaaDoor
open Go.RowKit

variable {S S' : Nat → Prop}

set_option maxRecDepth 100000 in
set_option maxHeartbeats 1000000 in
theorem keyspec_any (Q : Option Addr) (qc : Nat) (s0 : List UInt8) (m0 : Int) (A : Option Addr) (c : Nat) (sd : List UInt8) (many used : Int) (root : List UInt8) (i : Int) (B : Option Addr) (bc : Nat) (msg : List UInt8) (w : World) (hq : Fl S w 1 (.slice Q s0.length qc) s0.length (byteVals s0)) (hf : Fl S w 1 (.slice A sd.length c) sd.length (byteVals sd)) (hd : root.length = 32) (hm : Fl S w 1 (.slice B msg.length bc) msg.length (byteVals msg)) (hG : Glob w) :
    Calls Tryd.prog 5 #[.slice Q s0.length qc, .int .i64 m0, .agg #[.slice A sd.length c, .int .i64 many, .int .i64 used], .agg (byteVals root).toArray, .int .i64 i, .slice B msg.length bc] w (fun e w' => e = .returned (.bool true) ∧ Ext w w') := by
  have hqk : Fl (Clip S w) w 1 (.slice Q s0.length qc) s0.length (byteVals s0) := hq.clip
  have hqkc := (Fl.cel hqk).2.1
  have hc : Fl (Clip S w) w 1 (.slice A sd.length c) sd.length (byteVals sd) := hf.clip
  have hcc := (Fl.cel hc).2.1
  have hmk : Fl (Clip S w) w 1 (.slice B msg.length bc) msg.length (byteVals msg) := hm.clip
  have hmkc := (Fl.cel hmk).2.1
  refine calls_enter (l := [(.slice Q s0.length qc), (.int .i64 m0), (.agg #[(.slice A sd.length c), (.int .i64 many), (.int .i64 used)]), (.agg (byteVals root).toArray), (.int .i64 i), (.slice B msg.length bc)]) Tryd.func5 rfl rfl rfl (fun aA hF => ?_)
  refine wp_seq_k (fun K1 hK1 => ?_)
  refine wp_region_lit ?_
  refine wpl_op (i := 0) rfl (o_new (fun g => (.pointer (some ⟨g, 0, none⟩))) [(.slice A sd.length c), (.int .i64 many), (.int .i64 used)] 24 hF rfl rfl rfl rfl (rn_box (hF.get rfl) (by kernel_rfl)) ?_)
  intro g2 w3 a8 F9 z6 z7 b4 hx5; clear hF
  refine wpl_op (i := 1) rfl (o_new (fun g => (.pointer (some ⟨g, 0, none⟩))) (byteVals root) 37 F9 rfl rfl rfl rfl (rn_box (F9.get rfl) (box_arr _)) ?_)
  intro g10 w11 a16 F17 z14 z15 b12 hx13; clear F9
  refine qv 2 (.bool false) F17 rfl (rn_assign rfl) fun _ F19 => ?_; clear F17
  refine wpList_nil ?_
  refine hK1 _ _ ?_
  clear hK1
  refine wp_seq_k (fun K20 hK20 => ?_)
  refine wp_seq_k (fun K21 hK21 => ?_)
  refine wp_region_lit ?_
  refine wpl_op (i := 0) rfl (o_call F19 rfl rfl rfl rfl (rn_call (args0 ) rfl (by kernel_rfl)) (sane4 _ (hG.ext (((Ext.refl w).trans hx5).trans hx13))) ?_)
  rintro _ w22 ⟨rfl, hx23⟩
  refine ⟨_, rfl, ?_⟩; intro a24 F25; clear F19; have z26 := hx23.size
  refine qv 1 (.bool false) F25 rfl (rn_not' (F25.get rfl) rfl) fun _ F28 => ?_; clear F25
  refine wpList_nil ?_
  refine hK21 _ _ ?_
  clear hK21
  refine wp_cond_false (c_false F28 rfl rfl) ?_
  refine wp_skip ?_
  refine hK20 _ _ ?_
  clear hK20
  refine wp_seq_k (fun K29 hK29 => ?_)
  refine wp_seq_k (fun K30 hK30 => ?_)
  refine wp_region_lit ?_
  refine qv 0 (.slice Q s0.length qc) F28 rfl (rn_move (F28.get rfl)) fun _ F32 => ?_; clear F28
  refine qv 1 (.int .i64 (s0.length : Nat)) F32 rfl (rn_len_slice Tryd.underlying22 (F32.get rfl)) fun _ F34 => ?_; clear F32
  refine qv 2 (.bool (decide ((200 : Int) < ((s0.length : Nat) : Int)))) F34 rfl (rn_gtr (F34.get rfl) rfl) fun _ F36 => ?_; clear F34
  refine qv 3 (.bool (decide ((200 : Int) < ((s0.length : Nat) : Int)))) F36 rfl (rn_move (F36.get rfl)) fun _ F38 => ?_; clear F36
  by_cases hc39 : (200 : Int) < ((s0.length : Nat) : Int)
  · skip
    refine qu 4 F38 (decide_eq_true hc39) fun _ F41 => ?_; clear F38
    refine qu 5 F41 (decide_eq_true hc39) fun _ F43 => ?_; clear F41
    refine qu 6 F43 (decide_eq_true hc39) fun _ F45 => ?_; clear F43
    refine qv 7 (.bool true) F45 rfl (rn_pickT (c_true F45 rfl (decide_eq_true hc39)) rfl) fun _ F47 => ?_; clear F45
    refine wpList_nil ?_
    refine hK30 _ _ ?_
    clear hK30
    have F48 := (((((((((((F47.nil.c F47 30 rfl).c F47 22 rfl).c F47 12 rfl).c F47 9 rfl).c F47 8 rfl).c F47 5 rfl).c F47 4 rfl).c F47 3 rfl).c F47 2 rfl).c F47 1 rfl).c F47 0 rfl)
    clear F47
    refine wp_cond_true (c_true F48 rfl rfl) ?_
    refine wp_seq_k (fun K49 hK49 => ?_)
    refine wp_region_lit ?_
    refine qv 0 (.bool true) F48 rfl (rn_assign rfl) fun _ F51 => ?_; clear F48
    refine wpList_nil ?_
    refine hK49 _ _ ?_
    clear hK49
    refine wp_ret ?_
    refine ret_then ?_
    refine ret1 F51 rfl rfl ?_
    exact ⟨congrArg (fun b => Ending.returned (.bool b)) (rfl : true = true), ((((Ext.refl w).trans hx5).trans hx13).trans hx23)⟩
  · skip
    refine qg 4 (.slice B msg.length bc) F38 (decide_eq_false hc39) (rn_move (F38.get rfl)) fun _ F53 => ?_; clear F38
    refine qg 5 (.int .i64 (msg.length : Nat)) F53 (decide_eq_false hc39) (rn_len_slice Tryd.underlying22 (F53.get rfl)) fun _ F55 => ?_; clear F53
    refine qg 6 (.bool (decide ((300 : Int) < ((msg.length : Nat) : Int)))) F55 (decide_eq_false hc39) (rn_gtr (F55.get rfl) rfl) fun _ F57 => ?_; clear F55
    refine qv 7 (.bool (decide ((300 : Int) < ((msg.length : Nat) : Int)))) F57 rfl (rn_pickF (c_false F57 rfl (decide_eq_false hc39)) (F57.get rfl)) fun _ F59 => ?_; clear F57
    refine wpList_nil ?_
    refine hK30 _ _ ?_
    clear hK30
    have F60 := (((((((((((F59.nil.c F59 30 rfl).c F59 22 rfl).c F59 12 rfl).c F59 9 rfl).c F59 8 rfl).c F59 5 rfl).c F59 4 rfl).c F59 3 rfl).c F59 2 rfl).c F59 1 rfl).c F59 0 rfl)
    clear F59
    by_cases hc61 : (300 : Int) < ((msg.length : Nat) : Int)
    · skip
      refine wp_cond_true (c_true F60 rfl (decide_eq_true hc61)) ?_
      refine wp_seq_k (fun K62 hK62 => ?_)
      refine wp_region_lit ?_
      refine qv 0 (.bool true) F60 rfl (rn_assign rfl) fun _ F64 => ?_; clear F60
      refine wpList_nil ?_
      refine hK62 _ _ ?_
      clear hK62
      refine wp_ret ?_
      refine ret_then ?_
      refine ret1 F64 rfl rfl ?_
      exact ⟨congrArg (fun b => Ending.returned (.bool b)) (rfl : true = true), ((((Ext.refl w).trans hx5).trans hx13).trans hx23)⟩
    · skip
      refine wp_cond_false (c_false F60 rfl (decide_eq_false hc61)) ?_
      refine wp_skip ?_
      refine hK29 _ _ ?_
      clear hK29
      refine wp_seq_k (fun K65 hK65 => ?_)
      refine wp_region_lit ?_
      refine qv 0 (.slice Q s0.length qc) F60 rfl (rn_move (F60.get rfl)) fun _ F67 => ?_; clear F60
      refine qv 1 (.int .i64 m0) F67 rfl (rn_move (F67.get rfl)) fun _ F69 => ?_; clear F67
      have d70 := (((hqk.ext hx5).ext hx13).ext hx23)
      refine wpl_op (i := 2) rfl (o_call F69 rfl rfl rfl rfl (rn_call (args2 (F69.get rfl) (F69.get rfl)) rfl (by kernel_rfl)) (new_at (v := (.slice Q s0.length qc)) (m := s0.length) s0 m0 _ d70 (by omega)) ?_)
      rintro _ w77 ⟨A71, n72, c73, rfl, hf74, hx78⟩
      have z75 := (Fl.cel hf74).2.1; have z76 := Fl.blen hf74
      refine ⟨_, rfl, ?_⟩; intro a79 F80; clear F69; have z81 := hx78.size
      have hf82 : Fl (Clip (fun b => w22.heap.size ≤ b) w77) w77 1 (.slice A71 n72 c73) n72 (byteVals (newS s0 m0)) := hf74.clip
      refine qv 3 (.tuple #[(.agg #[(.slice A71 n72 c73), (.int .i64 (newM s0 m0)), (.int .i64 0)]), (.int .i64 (newE s0 m0))]) F80 rfl (rn_move (F80.get rfl)) fun _ F84 => ?_; clear F80
      refine qv 4 (.agg #[(.slice A71 n72 c73), (.int .i64 (newM s0 m0)), (.int .i64 0)]) F84 rfl (rn_extract (F84.get rfl) rfl) fun _ F86 => ?_; clear F84
      refine qv 5 (.int .i64 (newE s0 m0)) F86 rfl (rn_extract (F86.get rfl) rfl) fun _ F88 => ?_; clear F86
      refine wpl_op (i := 6) rfl (o_new (fun g => (.pointer (some ⟨g, 0, none⟩))) [(.slice none 0 0), (.int .i64 0), (.int .i64 0)] 24 F88 rfl rfl rfl rfl (by kernel_rfl) ?_)
      intro g89 w90 a95 F96 z93 z94 b91 hx92; clear F88
      refine wpl_op (i := 7) rfl (o_store (cells := [(.slice A71 n72 c73), (.int .i64 (newM s0 m0)), (.int .i64 0)]) F96 rfl rfl rfl rfl (F96.get rfl) (F96.get rfl) b91 inf24 rfl (by simp [Value.oneCell']) ?_)
      intro w97 b98 hg99; have z100 := hg99.size
      refine qv 8 (.int .i64 (newE s0 m0)) F96 rfl (rn_assign (F96.get rfl)) fun _ F102 => ?_; clear F96
      refine wpList_nil ?_
      refine hK65 _ _ ?_
      clear hK65
      have F103 := (((((((((((((F102.nil.c F102 14 rfl).c F102 13 rfl).c F102 30 rfl).c F102 22 rfl).c F102 12 rfl).c F102 9 rfl).c F102 8 rfl).c F102 5 rfl).c F102 4 rfl).c F102 3 rfl).c F102 2 rfl).c F102 1 rfl).c F102 0 rfl)
      clear F102
      refine wp_seq_k (fun K104 hK104 => ?_)
      refine wp_region_lit ?_
      refine qv 0 (.slice Q s0.length qc) F103 rfl (rn_move (F103.get rfl)) fun _ F106 => ?_; clear F103
      refine qv 1 (.int .i64 m0) F106 rfl (rn_move (F106.get rfl)) fun _ F108 => ?_; clear F106
      have d109 := (hqk.pres (((((((Pres.refl w).ext hx5).ext hx13).ext hx23).ext hx78).ext hx92).grownN hg99 (fun h => by simp only [Clip] at h; omega)))
      refine wpl_op (i := 2) rfl (o_call F108 rfl rfl rfl rfl (rn_call (args2 (F108.get rfl) (F108.get rfl)) rfl (by kernel_rfl)) (rnew_at (v := (.slice Q s0.length qc)) (m := s0.length) s0 m0 _ d109 (by omega)) ?_)
      rintro _ w116 ⟨A110, n111, c112, rfl, hf113, hx117⟩
      have z114 := (Fl.cel hf113).2.1; have z115 := Fl.blen hf113
      refine ⟨_, rfl, ?_⟩; intro a118 F119; clear F108; have z120 := hx117.size
      have hf121 : Fl (Clip (fun b => w97.heap.size ≤ b) w116) w116 1 (.slice A110 n111 c112) n111 (byteVals (newS s0 m0)) := hf113.clip
      refine qv 3 (.tuple #[(.agg #[(.slice A110 n111 c112), (.int .i64 (newM s0 m0)), (.int .i64 0)]), (.int .i64 (newE s0 m0))]) F119 rfl (rn_move (F119.get rfl)) fun _ F123 => ?_; clear F119
      refine qv 4 (.agg #[(.slice A110 n111 c112), (.int .i64 (newM s0 m0)), (.int .i64 0)]) F123 rfl (rn_extract (F123.get rfl) rfl) fun _ F125 => ?_; clear F123
      refine qv 5 (.int .i64 (newE s0 m0)) F125 rfl (rn_extract (F125.get rfl) rfl) fun _ F127 => ?_; clear F125
      refine wpl_op (i := 6) rfl (o_new (fun g => (.pointer (some ⟨g, 0, none⟩))) [(.slice none 0 0), (.int .i64 0), (.int .i64 0)] 24 F127 rfl rfl rfl rfl (by kernel_rfl) ?_)
      intro g128 w129 a134 F135 z132 z133 b130 hx131; clear F127
      refine wpl_op (i := 7) rfl (o_store (cells := [(.slice A110 n111 c112), (.int .i64 (newM s0 m0)), (.int .i64 0)]) F135 rfl rfl rfl rfl (F135.get rfl) (F135.get rfl) b130 inf24 rfl (by simp [Value.oneCell']) ?_)
      intro w136 b137 hg138; have z139 := hg138.size
      refine qv 8 (.int .i64 (newE s0 m0)) F135 rfl (rn_assign (F135.get rfl)) fun _ F141 => ?_; clear F135
      refine wpList_nil ?_
      refine hK104 _ _ ?_
      clear hK104
      have F142 := (((((((((((((((F141.nil.c F141 16 rfl).c F141 15 rfl).c F141 14 rfl).c F141 13 rfl).c F141 30 rfl).c F141 22 rfl).c F141 12 rfl).c F141 9 rfl).c F141 8 rfl).c F141 5 rfl).c F141 4 rfl).c F141 3 rfl).c F141 2 rfl).c F141 1 rfl).c F141 0 rfl)
      clear F141
      refine wp_seq_k (fun K143 hK143 => ?_)
      refine wp_seq_k (fun K144 hK144 => ?_)
      have hx146 : ∃ W, w136.drew = W ∧ Ext w136 W := ⟨_, rfl, (Ext.refl _).drew⟩
      obtain ⟨w145, e147, hx146⟩ := hx146
      have z148 := hx146.size
      refine any_start (fun W => Ext w145 W ∧ Blk W g89 24 [(.slice A71 n72 c73), (.int .i64 (newM s0 m0)), (.int .i64 0)] ∧ Blk W g128 24 [(.slice A110 n111 c112), (.int .i64 (newM s0 m0)), (.int .i64 0)] ∧ Blk W g10 37 (byteVals root)) (fun i => false) 21 #[false, false, false, false, false, false, false, false, false, false, false, false, false, false, false, false, false, false, false, false, false] rfl rfl rfl ?_
      rw [e147]; clear e147
      refine qp 0 (.int .i64 (newE s0 m0)) F142 rfl rfl (fun W => (rn_move (F142.get rfl))) fun _ F150 => ?_; clear F142
      refine qp 1 (.int .i64 (newE s0 m0)) F150 rfl rfl (fun W => (rn_move (F150.get rfl))) fun _ F152 => ?_; clear F150
      refine qp 2 (.bool (decide (((newE s0 m0) : Int) ≠ ((newE s0 m0) : Int)))) F152 rfl rfl (fun W => (rn_neq (F152.get rfl) (F152.get rfl))) fun _ F154 => ?_; clear F152
      refine qp 3 (.bool (decide (((newE s0 m0) : Int) ≠ ((newE s0 m0) : Int)))) F154 rfl rfl (fun W => (rn_move (F154.get rfl))) fun _ F156 => ?_; clear F154
      have b159 := ((((b98.ext hx117).ext hx131).grownN hg138 (by omega)).ext hx146)
      have b160 := (b137.ext hx146)
      have b161 := ((((((((b12.ext hx23).ext hx78).ext hx92).grownN hg99 (by omega)).ext hx117).ext hx131).grownN hg138 (by omega)).ext hx146)
      have hS158 : Ext w145 w145 ∧ Blk w145 g89 24 [(.slice A71 n72 c73), (.int .i64 (newM s0 m0)), (.int .i64 0)] ∧ Blk w145 g128 24 [(.slice A110 n111 c112), (.int .i64 (newM s0 m0)), (.int .i64 0)] ∧ Blk w145 g10 37 (byteVals root) := ⟨(Ext.refl w145), b159, b160, b161⟩
      refine qs 4 (.agg #[(.slice A71 n72 c73), (.int .i64 (newM s0 m0)), (.int .i64 0)]) F156 rfl (wanted_guard rfl rfl rfl F156 rfl ((decide_eq_false (by simp)) : decide (((newE s0 m0) : Int) ≠ ((newE s0 m0) : Int)) = false) rfl) hS158 (fun W hW => (rn_loadBlk (F156.get rfl) hW.2.1 Tryd.underlying24 rfl inf24)) fun _ F163 => ?_; clear F156
      refine qs 5 (.agg #[(.slice A110 n111 c112), (.int .i64 (newM s0 m0)), (.int .i64 0)]) F163 rfl (wanted_guard rfl rfl rfl F163 rfl ((decide_eq_false (by simp)) : decide (((newE s0 m0) : Int) ≠ ((newE s0 m0) : Int)) = false) rfl) hS158 (fun W hW => (rn_loadBlk (F163.get rfl) hW.2.2.1 Tryd.underlying24 rfl inf24)) fun _ F165 => ?_; clear F163
      refine any_one (i := 6) (by decide +kernel) rfl ?_
      have d166 := (hf82.pres (((((((Pres.refl w77).ext hx92).grownN hg99 (fun h => by simp only [Clip] at h; omega)).ext hx117).ext hx131).grownN hg138 (fun h => by simp only [Clip] at h; omega)).ext hx146))
      have d167 := (hf121.pres ((((Pres.refl w116).ext hx131).grownN hg138 (fun h => by simp only [Clip] at h; omega)).ext hx146))
      refine o_call F165 rfl (wanted_guard rfl rfl rfl F165 rfl ((decide_eq_false (by simp)) : decide (((newE s0 m0) : Int) ≠ ((newE s0 m0) : Int)) = false) rfl) rfl rfl (rn_call (args2 (F165.get rfl) (F165.get rfl)) rfl (by kernel_rfl)) (samek_at (v := (.slice A71 n72 c73)) (u := (.slice A110 n111 c112)) (n := n72) (m := n111) (newS s0 m0) (newS s0 m0) (newM s0 m0) 0 (newM s0 m0) 0 _ d166 d167) ?_
      rintro _ w168 ⟨rfl, hx169⟩
      refine ⟨_, rfl, ?_⟩; intro a170 F171; clear F165; have z172 := hx169.size
      have b173 := (b159.ext hx169)
      have b174 := (b160.ext hx169)
      have b175 := (b161.ext hx169)
      refine ⟨fun _ _ => ⟨((Ext.refl w145).trans hx169), b173, b174, b175⟩, ?_⟩
      refine qp 7 (.bool (!(sameK (newS s0 m0) (newS s0 m0) (newM s0 m0) 0 (newM s0 m0) 0))) F171 rfl (wanted_guard rfl rfl rfl F171 rfl ((decide_eq_false (by simp)) : decide (((newE s0 m0) : Int) ≠ ((newE s0 m0) : Int)) = false) rfl) (fun W => (rn_not' (F171.get rfl) rfl)) fun _ F177 => ?_; clear F171
      refine qp 8 (.bool (!(sameK (newS s0 m0) (newS s0 m0) (newM s0 m0) 0 (newM s0 m0) 0))) F177 rfl rfl (fun W => (rn_pickF (c_false F177 rfl ((decide_eq_false (by simp)) : decide (((newE s0 m0) : Int) ≠ ((newE s0 m0) : Int)) = false)) (F177.get rfl))) fun _ F179 => ?_; clear F177
      refine qp 9 (.bool (!(sameK (newS s0 m0) (newS s0 m0) (newM s0 m0) 0 (newM s0 m0) 0))) F179 rfl rfl (fun W => (rn_move (F179.get rfl))) fun _ F181 => ?_; clear F179
      have hS183 : Ext w145 w168 ∧ Blk w168 g89 24 [(.slice A71 n72 c73), (.int .i64 (newM s0 m0)), (.int .i64 0)] ∧ Blk w168 g128 24 [(.slice A110 n111 c112), (.int .i64 (newM s0 m0)), (.int .i64 0)] ∧ Blk w168 g10 37 (byteVals root) := ⟨((Ext.refl w145).trans hx169), b173, b174, b175⟩
      refine qs 10 (.agg (byteVals root).toArray) F181 rfl (wanted_guard rfl rfl rfl F181 rfl (not_t ((sameK_refl _ _ _) : sameK (newS s0 m0) (newS s0 m0) (newM s0 m0) 0 (newM s0 m0) 0 = true)) rfl) hS183 (fun W hW => (rn_loadBlk (F181.get rfl) hW.2.2.2 Tryd.underlying37 rfl (inf37.trans (congrArg some (byteVals_len hd).symm)))) fun _ F185 => ?_; clear F181
      refine qp 11 (.int .i64 i) F185 rfl (wanted_guard rfl rfl rfl F185 rfl (not_t ((sameK_refl _ _ _) : sameK (newS s0 m0) (newS s0 m0) (newM s0 m0) 0 (newM s0 m0) 0 = true)) rfl) (fun W => (rn_move (F185.get rfl))) fun _ F187 => ?_; clear F185
      refine qp 12 (.slice B msg.length bc) F187 rfl (wanted_guard rfl rfl rfl F187 rfl (not_t ((sameK_refl _ _ _) : sameK (newS s0 m0) (newS s0 m0) (newM s0 m0) 0 (newM s0 m0) 0 = true)) rfl) (fun W => (rn_move (F187.get rfl))) fun _ F189 => ?_; clear F187
      refine qs 14 (.agg (byteVals root).toArray) F189 rfl (wanted_guard rfl rfl rfl F189 rfl (not_t ((sameK_refl _ _ _) : sameK (newS s0 m0) (newS s0 m0) (newM s0 m0) 0 (newM s0 m0) 0 = true)) rfl) hS183 (fun W hW => (rn_loadBlk (F189.get rfl) hW.2.2.2 Tryd.underlying37 rfl (inf37.trans (congrArg some (byteVals_len hd).symm)))) fun _ F191 => ?_; clear F189
      refine qp 15 (.int .i64 i) F191 rfl (wanted_guard rfl rfl rfl F191 rfl (not_t ((sameK_refl _ _ _) : sameK (newS s0 m0) (newS s0 m0) (newM s0 m0) 0 (newM s0 m0) 0 = true)) rfl) (fun W => (rn_move (F191.get rfl))) fun _ F193 => ?_; clear F191
      refine qp 16 (.slice B msg.length bc) F193 rfl (wanted_guard rfl rfl rfl F193 rfl (not_t ((sameK_refl _ _ _) : sameK (newS s0 m0) (newS s0 m0) (newM s0 m0) 0 (newM s0 m0) 0 = true)) rfl) (fun W => (rn_move (F193.get rfl))) fun _ F195 => ?_; clear F193
      refine any_one (i := 13) (by decide +kernel) rfl ?_
      have d196 := (hmk.pres ((((((((((((Pres.refl w).ext hx5).ext hx13).ext hx23).ext hx78).ext hx92).grownN hg99 (fun h => by simp only [Clip] at h; omega)).ext hx117).ext hx131).grownN hg138 (fun h => by simp only [Clip] at h; omega)).ext hx146).ext hx169))
      refine o_call F195 rfl (wanted_guard rfl rfl rfl F195 rfl (not_t ((sameK_refl _ _ _) : sameK (newS s0 m0) (newS s0 m0) (newM s0 m0) 0 (newM s0 m0) 0 = true)) rfl) rfl rfl (rn_call (args3 (F195.get rfl) (F195.get rfl) (F195.get rfl)) rfl (by kernel_rfl)) (bits_at (v := (.slice B msg.length bc)) (m := msg.length) root i msg _ hd d196 (hG.ext ((((((((((((Ext.refl w).trans hx5).trans hx13).trans hx23).trans hx78).trans hx92).grownN hg99 (by omega)).trans hx117).trans hx131).grownN hg138 (by omega)).trans hx146).trans hx169)) (by omega)) ?_
      rintro _ w203 ⟨A197, n198, c199, rfl, hf200, hx204⟩
      have z201 := (Fl.cel hf200).2.1; have z202 := Fl.blen2 hf200
      refine ⟨_, rfl, ?_⟩; intro a205 F206; clear F195; have z207 := hx204.size
      have hf208 : Fl (Clip (fun b => w168.heap.size ≤ b) w203) w203 1 (.slice A197 n198 c199) n198 (boolVals (bitsR root i msg)) := hf200.clip
      have b209 := (b173.ext hx204)
      have b210 := (b174.ext hx204)
      have b211 := (b175.ext hx204)
      refine ⟨fun _ _ => ⟨(((Ext.refl w145).trans hx169).trans hx204), b209, b210, b211⟩, ?_⟩
      refine any_one (i := 17) (by decide +kernel) rfl ?_
      have d212 := (hmk.pres (((((((((((((Pres.refl w).ext hx5).ext hx13).ext hx23).ext hx78).ext hx92).grownN hg99 (fun h => by simp only [Clip] at h; omega)).ext hx117).ext hx131).grownN hg138 (fun h => by simp only [Clip] at h; omega)).ext hx146).ext hx169).ext hx204))
      refine o_call F206 rfl (wanted_guard rfl rfl rfl F206 rfl (not_t ((sameK_refl _ _ _) : sameK (newS s0 m0) (newS s0 m0) (newM s0 m0) 0 (newM s0 m0) 0 = true)) rfl) rfl rfl (rn_call (args3 (F206.get rfl) (F206.get rfl) (F206.get rfl)) rfl (by kernel_rfl)) (rbits_at (v := (.slice B msg.length bc)) (m := msg.length) root i msg _ hd d212 (by omega)) ?_
      rintro _ w219 ⟨A213, n214, c215, rfl, hf216, hx220⟩
      have z217 := (Fl.cel hf216).2.1; have z218 := Fl.blen2 hf216
      refine ⟨_, rfl, ?_⟩; intro a221 F222; clear F206; have z223 := hx220.size
      have hf224 : Fl (Clip (fun b => w203.heap.size ≤ b) w219) w219 1 (.slice A213 n214 c215) n214 (boolVals (bitsR root i msg)) := hf216.clip
      have b225 := (b209.ext hx220)
      have b226 := (b210.ext hx220)
      have b227 := (b211.ext hx220)
      refine ⟨fun _ _ => ⟨((((Ext.refl w145).trans hx169).trans hx204).trans hx220), b225, b226, b227⟩, ?_⟩
      refine any_one (i := 18) (by decide +kernel) rfl ?_
      have d228 := (hf208.ext hx220)
      refine o_call F222 rfl (wanted_guard rfl rfl rfl F222 rfl (not_t ((sameK_refl _ _ _) : sameK (newS s0 m0) (newS s0 m0) (newM s0 m0) 0 (newM s0 m0) 0 = true)) rfl) rfl rfl (rn_call (args2 (F222.get rfl) (F222.get rfl)) rfl (by kernel_rfl)) (sameb_at (bitsR root i msg) (bitsR root i msg) _ d228 hf224) ?_
      rintro _ w229 ⟨rfl, hx230⟩
      refine ⟨_, rfl, ?_⟩; intro a231 F232; clear F222; have z233 := hx230.size
      have b234 := (b225.ext hx230)
      have b235 := (b226.ext hx230)
      have b236 := (b227.ext hx230)
      refine ⟨fun _ _ => ⟨(((((Ext.refl w145).trans hx169).trans hx204).trans hx220).trans hx230), b234, b235, b236⟩, ?_⟩
      refine qp 19 (.bool (!(decide (bitsR root i msg = bitsR root i msg)))) F232 rfl (wanted_guard rfl rfl rfl F232 rfl (not_t ((sameK_refl _ _ _) : sameK (newS s0 m0) (newS s0 m0) (newM s0 m0) 0 (newM s0 m0) 0 = true)) rfl) (fun W => (rn_not' (F232.get rfl) rfl)) fun _ F238 => ?_; clear F232
      refine qp 20 (.bool (!(decide (bitsR root i msg = bitsR root i msg)))) F238 rfl rfl (fun W => (rn_pickF (c_false F238 rfl (not_t ((sameK_refl _ _ _) : sameK (newS s0 m0) (newS s0 m0) (newM s0 m0) 0 (newM s0 m0) 0 = true))) (F238.get rfl))) fun _ F240 => ?_; clear F238
      refine any_nil (by decide +kernel) ?_
      refine hK144 _ _ ?_
      clear hK144
      have F241 := ((((((((((((((((F240.nil.c F240 63 rfl).c F240 16 rfl).c F240 15 rfl).c F240 14 rfl).c F240 13 rfl).c F240 30 rfl).c F240 22 rfl).c F240 12 rfl).c F240 9 rfl).c F240 8 rfl).c F240 5 rfl).c F240 4 rfl).c F240 3 rfl).c F240 2 rfl).c F240 1 rfl).c F240 0 rfl)
      clear F240
      refine wp_cond_false (c_false F241 rfl (not_t ((decide_eq_true rfl) : decide (bitsR root i msg = bitsR root i msg) = true))) ?_
      refine wp_skip ?_
      refine hK143 _ _ ?_
      clear hK143
      refine wp_seq_k (fun K243 hK243 => ?_)
      refine wp_seq_k (fun K244 hK244 => ?_)
      refine wp_region_lit ?_
      have b245 := (((((((((((((b4.ext hx13).ext hx23).ext hx78).ext hx92).grownN hg99 (by omega)).ext hx117).ext hx131).grownN hg138 (by omega)).ext hx146).ext hx169).ext hx204).ext hx220).ext hx230)
      refine qv 0 (.agg #[(.slice A sd.length c), (.int .i64 many), (.int .i64 used)]) F241 rfl (rn_loadBlk (F241.get rfl) b245 Tryd.underlying24 rfl inf24) fun _ F247 => ?_; clear F241
      refine wpl_op (i := 1) rfl (o_call F247 rfl rfl rfl rfl (rn_call (args2 (F247.get rfl) rfl) rfl (by kernel_rfl)) (few_any A none c 0 0 sd many used _) ?_)
      rintro _ w248 ⟨rfl, hx249⟩
      refine ⟨_, rfl, ?_⟩; intro a250 F251; clear F247; have z252 := hx249.size
      refine qv 2 (.bool (!(decide (((many ≤ 2 ∧ ((sd.length : Nat) : Int) ≤ 100) ∧ ((0 : Nat) : Int) ≤ 300))))) F251 rfl (rn_not' (F251.get rfl) rfl) fun _ F254 => ?_; clear F251
      refine qv 3 (.bool (!(decide (((many ≤ 2 ∧ ((sd.length : Nat) : Int) ≤ 100) ∧ ((0 : Nat) : Int) ≤ 300))))) F254 rfl (rn_move (F254.get rfl)) fun _ F256 => ?_; clear F254
      by_cases hc257 : ((many ≤ 2 ∧ ((sd.length : Nat) : Int) ≤ 100) ∧ ((0 : Nat) : Int) ≤ 300)
      · skip
        refine qu 4 F256 (not_t (decide_eq_true hc257)) fun _ F259 => ?_; clear F256
        refine qu 5 F259 (not_t (decide_eq_true hc257)) fun _ F261 => ?_; clear F259
        refine qv 6 (.bool false) F261 rfl (rn_pickF (c_false F261 rfl (not_t (decide_eq_true hc257))) rfl) fun _ F263 => ?_; clear F261
        refine wpList_nil ?_
        refine hK244 _ _ ?_
        clear hK244
        have F264 := (((((((((((((((((F263.nil.c F263 70 rfl).c F263 63 rfl).c F263 16 rfl).c F263 15 rfl).c F263 14 rfl).c F263 13 rfl).c F263 30 rfl).c F263 22 rfl).c F263 12 rfl).c F263 9 rfl).c F263 8 rfl).c F263 5 rfl).c F263 4 rfl).c F263 3 rfl).c F263 2 rfl).c F263 1 rfl).c F263 0 rfl)
        clear F263
        refine wp_cond_false (c_false F264 rfl rfl) ?_
        refine wp_skip ?_
        refine hK243 _ _ ?_
        clear hK243
        refine wp_seq_k (fun K265 hK265 => ?_)
        refine wp_region_lit ?_
        have b266 := (b245.ext hx249)
        refine qv 0 (.agg #[(.slice A sd.length c), (.int .i64 many), (.int .i64 used)]) F264 rfl (rn_loadBlk (F264.get rfl) b266 Tryd.underlying24 rfl inf24) fun _ F268 => ?_; clear F264
        have d269 := (hc.pres ((((((((((((((((Pres.refl w).ext hx5).ext hx13).ext hx23).ext hx78).ext hx92).grownN hg99 (fun h => by simp only [Clip] at h; omega)).ext hx117).ext hx131).grownN hg138 (fun h => by simp only [Clip] at h; omega)).ext hx146).ext hx169).ext hx204).ext hx220).ext hx230).ext hx249))
        refine wpl_op (i := 1) rfl (o_call F268 rfl rfl rfl rfl (rn_call (args1 (F268.get rfl)) rfl (by kernel_rfl)) (pub_at (v := (.slice A sd.length c)) (m := sd.length) sd many used _ d269 (hG.ext ((((((((((((((((Ext.refl w).trans hx5).trans hx13).trans hx23).trans hx78).trans hx92).grownN hg99 (by omega)).trans hx117).trans hx131).grownN hg138 (by omega)).trans hx146).trans hx169).trans hx204).trans hx220).trans hx230).trans hx249))) ?_)
        rintro _ w270 ⟨rfl, hx271⟩
        refine ⟨_, rfl, ?_⟩; intro a272 F273; clear F268; have z274 := hx271.size
        refine qv 2 (.tuple #[(.agg (byteVals (pubF sd many used)).toArray), (.int .i64 (pubE sd many used))]) F273 rfl (rn_move (F273.get rfl)) fun _ F276 => ?_; clear F273
        refine qv 3 (.agg (byteVals (pubF sd many used)).toArray) F276 rfl (rn_extract (F276.get rfl) rfl) fun _ F278 => ?_; clear F276
        refine qv 4 (.int .i64 (pubE sd many used)) F278 rfl (rn_extract (F278.get rfl) rfl) fun _ F280 => ?_; clear F278
        refine wpl_op (i := 5) rfl (o_new (fun g => (.pointer (some ⟨g, 0, none⟩))) (byteVals (List.replicate 32 0)) 37 F280 rfl rfl rfl rfl (by kernel_rfl) ?_)
        intro g281 w282 a287 F288 z285 z286 b283 hx284; clear F280
        refine wpl_op (i := 6) rfl (o_store (cells := (byteVals (pubF sd many used))) F288 rfl rfl rfl rfl (F288.get rfl) (F288.get rfl) b283 (inf37.trans (congrArg some (byteVals_len (pubF_len _ _ _)).symm)) ((byteVals_len (show List.length (List.replicate 32 0) = _ from List.length_replicate)).trans (byteVals_len (pubF_len _ _ _)).symm) (byteVals_one _) ?_)
        intro w289 b290 hg291; have z292 := hg291.size
        refine qv 7 (.int .i64 (pubE sd many used)) F288 rfl (rn_assign (F288.get rfl)) fun _ F294 => ?_; clear F288
        refine wpList_nil ?_
        refine hK265 _ _ ?_
        clear hK265
        have F295 := (((((((((((((((((((F294.nil.c F294 18 rfl).c F294 17 rfl).c F294 70 rfl).c F294 63 rfl).c F294 16 rfl).c F294 15 rfl).c F294 14 rfl).c F294 13 rfl).c F294 30 rfl).c F294 22 rfl).c F294 12 rfl).c F294 9 rfl).c F294 8 rfl).c F294 5 rfl).c F294 4 rfl).c F294 3 rfl).c F294 2 rfl).c F294 1 rfl).c F294 0 rfl)
        clear F294
        refine wp_seq_k (fun K296 hK296 => ?_)
        refine wp_region_lit ?_
        have b297 := (((b266.ext hx271).ext hx284).grownN hg291 (by omega))
        refine qv 0 (.agg #[(.slice A sd.length c), (.int .i64 many), (.int .i64 used)]) F295 rfl (rn_loadBlk (F295.get rfl) b297 Tryd.underlying24 rfl inf24) fun _ F299 => ?_; clear F295
        have d300 := (hc.pres (((((((((((((((((((Pres.refl w).ext hx5).ext hx13).ext hx23).ext hx78).ext hx92).grownN hg99 (fun h => by simp only [Clip] at h; omega)).ext hx117).ext hx131).grownN hg138 (fun h => by simp only [Clip] at h; omega)).ext hx146).ext hx169).ext hx204).ext hx220).ext hx230).ext hx249).ext hx271).ext hx284).grownN hg291 (fun h => by simp only [Clip] at h; omega)))
        refine wpl_op (i := 1) rfl (o_call F299 rfl rfl rfl rfl (rn_call (args1 (F299.get rfl)) rfl (by kernel_rfl)) (rpub_at (v := (.slice A sd.length c)) (m := sd.length) sd many used _ d300) ?_)
        rintro _ w301 ⟨rfl, hx302⟩
        refine ⟨_, rfl, ?_⟩; intro a303 F304; clear F299; have z305 := hx302.size
        refine qv 2 (.tuple #[(.agg (byteVals (pubF sd many used)).toArray), (.int .i64 (pubE sd many used))]) F304 rfl (rn_move (F304.get rfl)) fun _ F307 => ?_; clear F304
        refine qv 3 (.agg (byteVals (pubF sd many used)).toArray) F307 rfl (rn_extract (F307.get rfl) rfl) fun _ F309 => ?_; clear F307
        refine qv 4 (.int .i64 (pubE sd many used)) F309 rfl (rn_extract (F309.get rfl) rfl) fun _ F311 => ?_; clear F309
        refine wpl_op (i := 5) rfl (o_new (fun g => (.pointer (some ⟨g, 0, none⟩))) (byteVals (List.replicate 32 0)) 37 F311 rfl rfl rfl rfl (by kernel_rfl) ?_)
        intro g312 w313 a318 F319 z316 z317 b314 hx315; clear F311
        refine wpl_op (i := 6) rfl (o_store (cells := (byteVals (pubF sd many used))) F319 rfl rfl rfl rfl (F319.get rfl) (F319.get rfl) b314 (inf37.trans (congrArg some (byteVals_len (pubF_len _ _ _)).symm)) ((byteVals_len (show List.length (List.replicate 32 0) = _ from List.length_replicate)).trans (byteVals_len (pubF_len _ _ _)).symm) (byteVals_one _) ?_)
        intro w320 b321 hg322; have z323 := hg322.size
        refine qv 7 (.int .i64 (pubE sd many used)) F319 rfl (rn_assign (F319.get rfl)) fun _ F325 => ?_; clear F319
        refine wpList_nil ?_
        refine hK296 _ _ ?_
        clear hK296
        have F326 := (((((((((((((((((((((F325.nil.c F325 20 rfl).c F325 19 rfl).c F325 18 rfl).c F325 17 rfl).c F325 70 rfl).c F325 63 rfl).c F325 16 rfl).c F325 15 rfl).c F325 14 rfl).c F325 13 rfl).c F325 30 rfl).c F325 22 rfl).c F325 12 rfl).c F325 9 rfl).c F325 8 rfl).c F325 5 rfl).c F325 4 rfl).c F325 3 rfl).c F325 2 rfl).c F325 1 rfl).c F325 0 rfl)
        clear F325
        refine wp_seq_k (fun K327 hK327 => ?_)
        refine wp_region_lit ?_
        have b328 := (((b290.ext hx302).ext hx315).grownN hg322 (by omega))
        refine qv 0 (.agg (byteVals (pubF sd many used)).toArray) F326 rfl (rn_loadBlk (F326.get rfl) b328 Tryd.underlying37 rfl (inf37.trans (congrArg some (byteVals_len (pubF_len _ _ _)).symm))) fun _ F330 => ?_; clear F326
        refine qv 1 (.agg (byteVals (pubF sd many used)).toArray) F330 rfl (rn_loadBlk (F330.get rfl) b321 Tryd.underlying37 rfl (inf37.trans (congrArg some (byteVals_len (pubF_len _ _ _)).symm))) fun _ F332 => ?_; clear F330
        refine qv 2 (.bool (decide (pubF sd many used = pubF sd many used))) F332 rfl (rn_eqA Tryd.underlying37 Tryd.underlying5 inf5 (by kernel_rfl) (F332.get rfl) (F332.get rfl) (pubF_len _ _ _) (pubF_len _ _ _)) fun _ F334 => ?_; clear F332
        refine qv 3 (.bool (decide (pubF sd many used = pubF sd many used))) F334 rfl (rn_move (F334.get rfl)) fun _ F336 => ?_; clear F334
        refine qg 4 (.int .i64 (pubE sd many used)) F336 ((decide_eq_true rfl) : decide (pubF sd many used = pubF sd many used) = true) (rn_move (F336.get rfl)) fun _ F339 => ?_; clear F336
        refine qg 5 (.int .i64 (pubE sd many used)) F339 ((decide_eq_true rfl) : decide (pubF sd many used = pubF sd many used) = true) (rn_move (F339.get rfl)) fun _ F341 => ?_; clear F339
        refine qg 6 (.bool (decide (((pubE sd many used) : Int) = ((pubE sd many used) : Int)))) F341 ((decide_eq_true rfl) : decide (pubF sd many used = pubF sd many used) = true) (rn_eql (F341.get rfl) (F341.get rfl)) fun _ F343 => ?_; clear F341
        refine qv 7 (.bool (decide (((pubE sd many used) : Int) = ((pubE sd many used) : Int)))) F343 rfl (rn_pickT (c_true F343 rfl ((decide_eq_true rfl) : decide (pubF sd many used = pubF sd many used) = true)) (F343.get rfl)) fun _ F345 => ?_; clear F343
        refine qv 8 (.bool (decide (((pubE sd many used) : Int) = ((pubE sd many used) : Int)))) F345 rfl (rn_assign (F345.get rfl)) fun _ F347 => ?_; clear F345
        refine wpList_nil ?_
        refine hK327 _ _ ?_
        clear hK327
        have F348 := (((((((((((((((((((((F347.nil.c F347 20 rfl).c F347 19 rfl).c F347 18 rfl).c F347 17 rfl).c F347 70 rfl).c F347 63 rfl).c F347 16 rfl).c F347 15 rfl).c F347 14 rfl).c F347 13 rfl).c F347 30 rfl).c F347 22 rfl).c F347 12 rfl).c F347 9 rfl).c F347 8 rfl).c F347 5 rfl).c F347 4 rfl).c F347 3 rfl).c F347 2 rfl).c F347 1 rfl).c F347 0 rfl)
        clear F347
        refine wp_ret ?_
        refine ret1 F348 rfl rfl ?_
        exact ⟨congrArg (fun b => Ending.returned (.bool b)) (((decide_eq_true rfl) : decide (((pubE sd many used) : Int) = ((pubE sd many used) : Int)) = true) : decide (((pubE sd many used) : Int) = ((pubE sd many used) : Int)) = true), ((((((((((((((((((((((Ext.refl w).trans hx5).trans hx13).trans hx23).trans hx78).trans hx92).grownN hg99 (by omega)).trans hx117).trans hx131).grownN hg138 (by omega)).trans hx146).trans hx169).trans hx204).trans hx220).trans hx230).trans hx249).trans hx271).trans hx284).grownN hg291 (by omega)).trans hx302).trans hx315).grownN hg322 (by omega))⟩
      · skip
        have b349 := (b245.ext hx249)
        refine qg 4 (.agg #[(.slice A sd.length c), (.int .i64 many), (.int .i64 used)]) F256 (not_f (decide_eq_false hc257)) (rn_loadBlk (F256.get rfl) b349 Tryd.underlying24 rfl inf24) fun _ F351 => ?_; clear F256
        have d352 := (hc.pres ((((((((((((((((Pres.refl w).ext hx5).ext hx13).ext hx23).ext hx78).ext hx92).grownN hg99 (fun h => by simp only [Clip] at h; omega)).ext hx117).ext hx131).grownN hg138 (fun h => by simp only [Clip] at h; omega)).ext hx146).ext hx169).ext hx204).ext hx220).ext hx230).ext hx249))
        refine wpl_op (i := 5) rfl (o_call F351 rfl (wanted_guard rfl rfl rfl F351 rfl (not_f (decide_eq_false hc257)) rfl) rfl rfl (rn_call (args1 (F351.get rfl)) rfl (by kernel_rfl)) (rvalid_at (v := (.slice A sd.length c)) (m := sd.length) sd many used _ d352) ?_)
        rintro _ w353 ⟨rfl, hx354⟩
        refine ⟨_, rfl, ?_⟩; intro a355 F356; clear F351; have z357 := hx354.size
        refine qv 6 (.bool (kOk sd many used)) F356 rfl (rn_pickT (c_true F356 rfl (not_f (decide_eq_false hc257))) (F356.get rfl)) fun _ F359 => ?_; clear F356
        refine wpList_nil ?_
        refine hK244 _ _ ?_
        clear hK244
        have F360 := (((((((((((((((((F359.nil.c F359 70 rfl).c F359 63 rfl).c F359 16 rfl).c F359 15 rfl).c F359 14 rfl).c F359 13 rfl).c F359 30 rfl).c F359 22 rfl).c F359 12 rfl).c F359 9 rfl).c F359 8 rfl).c F359 5 rfl).c F359 4 rfl).c F359 3 rfl).c F359 2 rfl).c F359 1 rfl).c F359 0 rfl)
        clear F359
        rcases Bool.eq_false_or_eq_true (kOk sd many used) with hc361 | hc361
        · skip
          refine wp_cond_true (c_true F360 rfl hc361) ?_
          refine wp_seq_k (fun K362 hK362 => ?_)
          refine wp_region_lit ?_
          refine qv 0 (.bool true) F360 rfl (rn_assign rfl) fun _ F364 => ?_; clear F360
          refine wpList_nil ?_
          refine hK362 _ _ ?_
          clear hK362
          refine wp_ret ?_
          refine ret_then ?_
          refine ret1 F364 rfl rfl ?_
          exact ⟨congrArg (fun b => Ending.returned (.bool b)) (rfl : true = true), (((((((((((((((((Ext.refl w).trans hx5).trans hx13).trans hx23).trans hx78).trans hx92).grownN hg99 (by omega)).trans hx117).trans hx131).grownN hg138 (by omega)).trans hx146).trans hx169).trans hx204).trans hx220).trans hx230).trans hx249).trans hx354)⟩
        · skip
          refine wp_cond_false (c_false F360 rfl hc361) ?_
          refine wp_skip ?_
          refine hK243 _ _ ?_
          clear hK243
          refine wp_seq_k (fun K365 hK365 => ?_)
          refine wp_region_lit ?_
          have b366 := (b349.ext hx354)
          refine qv 0 (.agg #[(.slice A sd.length c), (.int .i64 many), (.int .i64 used)]) F360 rfl (rn_loadBlk (F360.get rfl) b366 Tryd.underlying24 rfl inf24) fun _ F368 => ?_; clear F360
          have d369 := (hc.pres (((((((((((((((((Pres.refl w).ext hx5).ext hx13).ext hx23).ext hx78).ext hx92).grownN hg99 (fun h => by simp only [Clip] at h; omega)).ext hx117).ext hx131).grownN hg138 (fun h => by simp only [Clip] at h; omega)).ext hx146).ext hx169).ext hx204).ext hx220).ext hx230).ext hx249).ext hx354))
          refine wpl_op (i := 1) rfl (o_call F368 rfl rfl rfl rfl (rn_call (args1 (F368.get rfl)) rfl (by kernel_rfl)) (pub_at (v := (.slice A sd.length c)) (m := sd.length) sd many used _ d369 (hG.ext (((((((((((((((((Ext.refl w).trans hx5).trans hx13).trans hx23).trans hx78).trans hx92).grownN hg99 (by omega)).trans hx117).trans hx131).grownN hg138 (by omega)).trans hx146).trans hx169).trans hx204).trans hx220).trans hx230).trans hx249).trans hx354))) ?_)
          rintro _ w370 ⟨rfl, hx371⟩
          refine ⟨_, rfl, ?_⟩; intro a372 F373; clear F368; have z374 := hx371.size
          refine qv 2 (.tuple #[(.agg (byteVals (pubF sd many used)).toArray), (.int .i64 (pubE sd many used))]) F373 rfl (rn_move (F373.get rfl)) fun _ F376 => ?_; clear F373
          refine qv 3 (.agg (byteVals (pubF sd many used)).toArray) F376 rfl (rn_extract (F376.get rfl) rfl) fun _ F378 => ?_; clear F376
          refine qv 4 (.int .i64 (pubE sd many used)) F378 rfl (rn_extract (F378.get rfl) rfl) fun _ F380 => ?_; clear F378
          refine wpl_op (i := 5) rfl (o_new (fun g => (.pointer (some ⟨g, 0, none⟩))) (byteVals (List.replicate 32 0)) 37 F380 rfl rfl rfl rfl (by kernel_rfl) ?_)
          intro g381 w382 a387 F388 z385 z386 b383 hx384; clear F380
          refine wpl_op (i := 6) rfl (o_store (cells := (byteVals (pubF sd many used))) F388 rfl rfl rfl rfl (F388.get rfl) (F388.get rfl) b383 (inf37.trans (congrArg some (byteVals_len (pubF_len _ _ _)).symm)) ((byteVals_len (show List.length (List.replicate 32 0) = _ from List.length_replicate)).trans (byteVals_len (pubF_len _ _ _)).symm) (byteVals_one _) ?_)
          intro w389 b390 hg391; have z392 := hg391.size
          refine qv 7 (.int .i64 (pubE sd many used)) F388 rfl (rn_assign (F388.get rfl)) fun _ F394 => ?_; clear F388
          refine wpList_nil ?_
          refine hK365 _ _ ?_
          clear hK365
          have F395 := (((((((((((((((((((F394.nil.c F394 18 rfl).c F394 17 rfl).c F394 70 rfl).c F394 63 rfl).c F394 16 rfl).c F394 15 rfl).c F394 14 rfl).c F394 13 rfl).c F394 30 rfl).c F394 22 rfl).c F394 12 rfl).c F394 9 rfl).c F394 8 rfl).c F394 5 rfl).c F394 4 rfl).c F394 3 rfl).c F394 2 rfl).c F394 1 rfl).c F394 0 rfl)
          clear F394
          refine wp_seq_k (fun K396 hK396 => ?_)
          refine wp_region_lit ?_
          have b397 := (((b366.ext hx371).ext hx384).grownN hg391 (by omega))
          refine qv 0 (.agg #[(.slice A sd.length c), (.int .i64 many), (.int .i64 used)]) F395 rfl (rn_loadBlk (F395.get rfl) b397 Tryd.underlying24 rfl inf24) fun _ F399 => ?_; clear F395
          have d400 := (hc.pres ((((((((((((((((((((Pres.refl w).ext hx5).ext hx13).ext hx23).ext hx78).ext hx92).grownN hg99 (fun h => by simp only [Clip] at h; omega)).ext hx117).ext hx131).grownN hg138 (fun h => by simp only [Clip] at h; omega)).ext hx146).ext hx169).ext hx204).ext hx220).ext hx230).ext hx249).ext hx354).ext hx371).ext hx384).grownN hg391 (fun h => by simp only [Clip] at h; omega)))
          refine wpl_op (i := 1) rfl (o_call F399 rfl rfl rfl rfl (rn_call (args1 (F399.get rfl)) rfl (by kernel_rfl)) (rpub_at (v := (.slice A sd.length c)) (m := sd.length) sd many used _ d400) ?_)
          rintro _ w401 ⟨rfl, hx402⟩
          refine ⟨_, rfl, ?_⟩; intro a403 F404; clear F399; have z405 := hx402.size
          refine qv 2 (.tuple #[(.agg (byteVals (pubF sd many used)).toArray), (.int .i64 (pubE sd many used))]) F404 rfl (rn_move (F404.get rfl)) fun _ F407 => ?_; clear F404
          refine qv 3 (.agg (byteVals (pubF sd many used)).toArray) F407 rfl (rn_extract (F407.get rfl) rfl) fun _ F409 => ?_; clear F407
          refine qv 4 (.int .i64 (pubE sd many used)) F409 rfl (rn_extract (F409.get rfl) rfl) fun _ F411 => ?_; clear F409
          refine wpl_op (i := 5) rfl (o_new (fun g => (.pointer (some ⟨g, 0, none⟩))) (byteVals (List.replicate 32 0)) 37 F411 rfl rfl rfl rfl (by kernel_rfl) ?_)
          intro g412 w413 a418 F419 z416 z417 b414 hx415; clear F411
          refine wpl_op (i := 6) rfl (o_store (cells := (byteVals (pubF sd many used))) F419 rfl rfl rfl rfl (F419.get rfl) (F419.get rfl) b414 (inf37.trans (congrArg some (byteVals_len (pubF_len _ _ _)).symm)) ((byteVals_len (show List.length (List.replicate 32 0) = _ from List.length_replicate)).trans (byteVals_len (pubF_len _ _ _)).symm) (byteVals_one _) ?_)
          intro w420 b421 hg422; have z423 := hg422.size
          refine qv 7 (.int .i64 (pubE sd many used)) F419 rfl (rn_assign (F419.get rfl)) fun _ F425 => ?_; clear F419
          refine wpList_nil ?_
          refine hK396 _ _ ?_
          clear hK396
          have F426 := (((((((((((((((((((((F425.nil.c F425 20 rfl).c F425 19 rfl).c F425 18 rfl).c F425 17 rfl).c F425 70 rfl).c F425 63 rfl).c F425 16 rfl).c F425 15 rfl).c F425 14 rfl).c F425 13 rfl).c F425 30 rfl).c F425 22 rfl).c F425 12 rfl).c F425 9 rfl).c F425 8 rfl).c F425 5 rfl).c F425 4 rfl).c F425 3 rfl).c F425 2 rfl).c F425 1 rfl).c F425 0 rfl)
          clear F425
          refine wp_seq_k (fun K427 hK427 => ?_)
          refine wp_region_lit ?_
          have b428 := (((b390.ext hx402).ext hx415).grownN hg422 (by omega))
          refine qv 0 (.agg (byteVals (pubF sd many used)).toArray) F426 rfl (rn_loadBlk (F426.get rfl) b428 Tryd.underlying37 rfl (inf37.trans (congrArg some (byteVals_len (pubF_len _ _ _)).symm))) fun _ F430 => ?_; clear F426
          refine qv 1 (.agg (byteVals (pubF sd many used)).toArray) F430 rfl (rn_loadBlk (F430.get rfl) b421 Tryd.underlying37 rfl (inf37.trans (congrArg some (byteVals_len (pubF_len _ _ _)).symm))) fun _ F432 => ?_; clear F430
          refine qv 2 (.bool (decide (pubF sd many used = pubF sd many used))) F432 rfl (rn_eqA Tryd.underlying37 Tryd.underlying5 inf5 (by kernel_rfl) (F432.get rfl) (F432.get rfl) (pubF_len _ _ _) (pubF_len _ _ _)) fun _ F434 => ?_; clear F432
          refine qv 3 (.bool (decide (pubF sd many used = pubF sd many used))) F434 rfl (rn_move (F434.get rfl)) fun _ F436 => ?_; clear F434
          refine qg 4 (.int .i64 (pubE sd many used)) F436 ((decide_eq_true rfl) : decide (pubF sd many used = pubF sd many used) = true) (rn_move (F436.get rfl)) fun _ F439 => ?_; clear F436
          refine qg 5 (.int .i64 (pubE sd many used)) F439 ((decide_eq_true rfl) : decide (pubF sd many used = pubF sd many used) = true) (rn_move (F439.get rfl)) fun _ F441 => ?_; clear F439
          refine qg 6 (.bool (decide (((pubE sd many used) : Int) = ((pubE sd many used) : Int)))) F441 ((decide_eq_true rfl) : decide (pubF sd many used = pubF sd many used) = true) (rn_eql (F441.get rfl) (F441.get rfl)) fun _ F443 => ?_; clear F441
          refine qv 7 (.bool (decide (((pubE sd many used) : Int) = ((pubE sd many used) : Int)))) F443 rfl (rn_pickT (c_true F443 rfl ((decide_eq_true rfl) : decide (pubF sd many used = pubF sd many used) = true)) (F443.get rfl)) fun _ F445 => ?_; clear F443
          refine qv 8 (.bool (decide (((pubE sd many used) : Int) = ((pubE sd many used) : Int)))) F445 rfl (rn_assign (F445.get rfl)) fun _ F447 => ?_; clear F445
          refine wpList_nil ?_
          refine hK427 _ _ ?_
          clear hK427
          have F448 := (((((((((((((((((((((F447.nil.c F447 20 rfl).c F447 19 rfl).c F447 18 rfl).c F447 17 rfl).c F447 70 rfl).c F447 63 rfl).c F447 16 rfl).c F447 15 rfl).c F447 14 rfl).c F447 13 rfl).c F447 30 rfl).c F447 22 rfl).c F447 12 rfl).c F447 9 rfl).c F447 8 rfl).c F447 5 rfl).c F447 4 rfl).c F447 3 rfl).c F447 2 rfl).c F447 1 rfl).c F447 0 rfl)
          clear F447
          refine wp_ret ?_
          refine ret1 F448 rfl rfl ?_
          exact ⟨congrArg (fun b => Ending.returned (.bool b)) (((decide_eq_true rfl) : decide (((pubE sd many used) : Int) = ((pubE sd many used) : Int)) = true) : decide (((pubE sd many used) : Int) = ((pubE sd many used) : Int)) = true), (((((((((((((((((((((((Ext.refl w).trans hx5).trans hx13).trans hx23).trans hx78).trans hx92).grownN hg99 (by omega)).trans hx117).trans hx131).grownN hg138 (by omega)).trans hx146).trans hx169).trans hx204).trans hx220).trans hx230).trans hx249).trans hx354).trans hx371).trans hx384).grownN hg391 (by omega)).trans hx402).trans hx415).grownN hg422 (by omega))⟩

end Go.Proofs.YtmjgjopbeokajaaDoor
