/- Several texts in one: JrK, JrL. -/
import Derived.Test.YtfmhnplkpohogaaProg
import Derived.Test.YtfmhnplkpohogaaBvsG
import Derived.Test.YtfmhnplkpohogaaBvsC
import Derived.Test.YtfmhnplkpohogaaBvsB
import Derived.KernelRfl
import Derived.Test.YtfmhnplkpohogaaBvsA
set_option linter.unusedVariables false
set_option linter.unusedSimpArgs false
namespace Go.Proofs.Ytfmhnplkpohogaa
open Go.RowKit

variable {S S' : Nat → Prop}

set_option maxRecDepth 100000 in
set_option maxHeartbeats 1000000 in
theorem record_any (A : Option Addr) (c : Nat) (L : List (List UInt8)) (p : Nat) (w : World) (hn : RBss S w (.slice A L.length c) L) (hL : ∀ x ∈ L, x.length = 128) (hl : L.length ≤ 4096) (hp : p ≤ L.length) :
  Calls Try.prog 62 #[.slice A L.length c, .int .i64 (p : Nat)] w (fun e w' => ∃ A k c, e = .returned (.tuple #[.slice A k c, .int .i64 (recN L p : Nat)]) ∧ Fl (fun b => w.heap.size ≤ b) w' 1 (.slice A k c) k (byteVals (recB L p)) ∧ Ext w w') := by
 have hnc := RBss.clip hn
 have hncq := RBss.form hnc
 have hcc := (RBss.at hn).2.1
 refine calls_enter (l := [(.slice A L.length c), (.int .i64 (p : Nat))]) Try.func62 rfl rfl rfl (fun aA hF => ?_)
 refine wp_seq_k (fun K1 hK1 => ?_)
 refine wp_region_lit ?_
 refine qv 0 (.slice none 0 0) hF rfl (rn_assign rfl) fun _ F3 => ?_; clear hF
 refine qv 1 (.int .i64 0) F3 rfl (rn_assign rfl) fun _ F5 => ?_; clear F3
 refine wpList_nil ?_
 refine hK1 _ _ ?_
 clear hK1
 refine wp_seq_k (fun K6 hK6 => ?_)
 refine wp_region_lit ?_
 refine wpl_op (i := 0) rfl (o_new (fun g => (.slice (some ⟨g, 0, none⟩) 0 0)) [] 5 F5 rfl rfl rfl rfl (rn_buildSlice (parts0 ) (by kernel_rfl)) ?_)
 intro g7 w8 a13 F14 z11 z12 b9 hx10; clear F5
 refine qv 1 (.slice (some ⟨g7, 0, none⟩) 0 0) F14 rfl (rn_assign (F14.get rfl)) fun _ F16 => ?_; clear F14
 refine wpList_nil ?_
 refine hK6 _ _ ?_
 clear hK6
 refine wp_seq_k (fun K17 hK17 => ?_)
 refine wp_seq_k (fun K18 hK18 => ?_)
 refine wp_region_lit ?_
 refine qv 0 (.int .i64 0) F16 rfl (rn_assign rfl) fun _ F20 => ?_; clear F16
 refine wpList_nil ?_
 refine hK18 _ _ ?_
 clear hK18
 refine wp_block ?_
 have hf21 := own_blk0 (k := 1) b9
 refine wp_loop (fun a' W => ∃ (n : Nat) (Ar : Option Addr) (nr : Nat) (cr : Nat) (b : List UInt8), Sl 72 [(0, (.slice A L.length c)), (1, (.int .i64 (p : Nat))), (4, (.slice none 0 0)), (5, (.int .i64 0)), (6, (.slice Ar nr cr)), (7, (.int .i64 (n : Nat)))] a' ∧ (p + n ≤ L.length ∧ nr ≤ 112 * n) ∧ Rd L p n b ∧ Ext w W ∧ W.ownsRow g7 5 1 (.slice Ar nr cr) nr (byteVals b) ∧ g7 ≤ W.heap.size ∧ w8.heap.size ≤ W.heap.size) (fun a' _ => L.length - (intOf (a'.eval (.tmp 7))).toNat) ⟨0, (some ⟨g7, 0, none⟩), 0, 0, [], ((((((F20.nil.cons (q_get F20 (t := 7) rfl (by first | rfl | (congr 1; omega) | (congr 1; done)))).cons (q_get F20 (t := 6) rfl (by first | rfl | (congr 1; omega) | (congr 1; done)))).cons (q_get F20 (t := 5) rfl rfl)).cons (q_get F20 (t := 4) rfl rfl)).cons (q_get F20 (t := 1) rfl rfl)).cons (q_get F20 (t := 0) rfl rfl)), ⟨by omega, by omega⟩, Rd.start L p, ((Ext.refl w).trans hx10), hf21, (by omega), (Nat.le_refl _)⟩ ?_
 clear F20
 rintro a22 w23 ⟨n, Ar, nr, cr, b, F24, hp26, hp27, hx25, r28, hf29, hf30⟩
 have hL31 := F24
 have z32 := hx25.size
 have z33 := own_form0 r28
 refine wp_seq_k (fun K34 hK34 => ?_)
 refine wp_seq_k (fun K35 hK35 => ?_)
 refine wp_region_lit ?_
 refine qv 0 (.int .i64 (p : Nat)) F24 rfl (rn_move (F24.get rfl)) fun _ F37 => ?_; clear F24
 refine qv 1 (.int .i64 (n : Nat)) F37 rfl (rn_move (F37.get rfl)) fun _ F39 => ?_; clear F37
 refine qv 2 (.int .i64 (p + n : Nat)) F39 rfl (rn_addN (a := p) (b := n) (F39.get rfl) (F39.get rfl) (by omega)) fun _ F41 => ?_; clear F39
 refine qv 3 (.slice A L.length c) F41 rfl (rn_move (F41.get rfl)) fun _ F43 => ?_; clear F41
 refine qv 4 (.int .i64 (L.length : Nat)) F43 rfl (rn_len_slice Try.underlying22 (F43.get rfl)) fun _ F45 => ?_; clear F43
 refine qv 5 (.bool (decide (((p + n : Nat) : Int) < ((L.length : Nat) : Int)))) F45 rfl (rn_lss (F45.get rfl) (F45.get rfl)) fun _ F47 => ?_; clear F45
 refine wpList_nil ?_
 refine hK35 _ _ ?_
 clear hK35
 have F48 := (((((((F47.nil.c F47 15 rfl).c F47 7 rfl).c F47 6 rfl).c F47 5 rfl).c F47 4 rfl).c F47 1 rfl).c F47 0 rfl)
 clear F47
 by_cases hc49 : ((p + n : Nat) : Int) < ((L.length : Nat) : Int)
 ·skip
  refine wp_cond_true (c_true F48 rfl (decide_eq_true hc49)) ?_
  refine wp_skip ?_
  refine hK34 _ _ ?_
  clear hK34
  refine wp_seq_k (fun K50 hK50 => ?_)
  refine wp_block ?_
  refine wp_seq_k (fun K51 hK51 => ?_)
  refine wp_region_lit ?_
  refine qv 0 (.slice A L.length c) F48 rfl (rn_move (F48.get rfl)) fun _ F53 => ?_; clear F48
  refine qv 1 (.int .i64 (p : Nat)) F53 rfl (rn_move (F53.get rfl)) fun _ F55 => ?_; clear F53
  refine qv 2 (.int .i64 (n : Nat)) F55 rfl (rn_move (F55.get rfl)) fun _ F57 => ?_; clear F55
  refine qv 3 (.int .i64 (p + n : Nat)) F57 rfl (rn_addN (a := p) (b := n) (F57.get rfl) (F57.get rfl) (by omega)) fun _ F59 => ?_; clear F57
  have d73 := (hnc.ext hx25)
  obtain ⟨x60, hi61, hm62⟩ := nth_of_lt L (p + n) (by omega)
  obtain ⟨b63, o64, A65, c66, hA67, hl68, hc69, hr70, le71, le72⟩ := RBss.get d73 hi61
  have z74 : x60.length = 128 := hL x60 (List.mem_of_getElem? hi61)
  have z75 := mod8 (x60.getD 10 0); have z76 := and1_fact (x60.getD 10 0); have z77 := and2_fact (x60.getD 10 0); have z78 := UInt8.toNat_lt (x60.getD 10 0)
  refine qv 4 (.pointer (some ⟨b63, o64 + (p + n), none⟩)) F59 rfl (rn_index1 Try.underlying22 inf35 ((F59.get rfl).trans (by rw [hA67])) (F59.get rfl) (by omega : (0 : Int) ≤ (p + n : Nat)) (by omega : ((p + n : Nat) : Int) < ((L.length : Nat) : Int))) fun _ F80 => ?_; clear F59
  refine qv 5 (.slice A65 x60.length c66) F80 rfl (rn_load (isAgg_no Try.underlying35 rfl) (F80.get rfl) (Ext.keep (Ext.refl w23) hc69)) fun _ F82 => ?_; clear F80
  refine qv 6 (.slice A65 x60.length c66) F82 rfl (rn_assign (F82.get rfl)) fun _ F84 => ?_; clear F82
  refine wpList_nil ?_
  refine hK51 _ _ ?_
  clear hK51
  have F85 := ((((((((F84.nil.c F84 8 rfl).c F84 15 rfl).c F84 7 rfl).c F84 6 rfl).c F84 5 rfl).c F84 4 rfl).c F84 1 rfl).c F84 0 rfl)
  clear F84
  refine wp_seq_k (fun K86 hK86 => ?_)
  refine wp_seq_k (fun K87 hK87 => ?_)
  have hx89 : ∃ W, w23.drew = W ∧ Ext w23 W := ⟨_, rfl, (Ext.refl _).drew⟩
  obtain ⟨w88, e90, hx89⟩ := hx89
  have z91 := hx89.size
  refine any_start (fun W => Ext w88 W) (fun i => false) 32 #[false, false, false, false, false, false, false, false, false, false, false, false, false, false, false, false, false, false, false, false, false, false, false, false, false, false, false, false, false, false, false, false] rfl rfl rfl ?_
  rw [e90]; clear e90
  refine qp 0 (.slice A65 x60.length c66) F85 rfl rfl (fun W => (rn_move (F85.get rfl))) fun _ F93 => ?_; clear F85
  refine qp 1 (.int .i64 (p : Nat)) F93 rfl rfl (fun W => (rn_move (F93.get rfl))) fun _ F95 => ?_; clear F93
  refine qp 2 (.int .i64 (n : Nat)) F95 rfl rfl (fun W => (rn_move (F95.get rfl))) fun _ F97 => ?_; clear F95
  refine qp 3 (.int .i64 (p + n : Nat)) F97 rfl rfl (fun W => (rn_addN (a := p) (b := n) (F97.get rfl) (F97.get rfl) (by omega))) fun _ F99 => ?_; clear F97
  refine any_one (i := 4) (by decide +kernel) rfl ?_
  have d100 := ((RBs.fl hr70).ext hx89)
  have hf101 := d100
  refine o_call F99 rfl rfl rfl rfl (rn_call (args2 (F99.get rfl) (F99.get rfl)) rfl (by kernel_rfl)) (rgood_at (v := (.slice A65 x60.length c66)) (m := x60.length) x60 (p + n) _ hf101 (by omega) (by omega)) ?_
  rintro _ w102 ⟨rfl, hx103⟩
  refine ⟨_, rfl, ?_⟩; intro a104 F105; clear F99; have z106 := hx103.size
  refine ⟨fun _ _ => ((Ext.refl w88).trans hx103), ?_⟩
  refine qp 5 (.bool (!(goodS x60 (p + n)))) F105 rfl rfl (fun W => (rn_not' (F105.get rfl) rfl)) fun _ F108 => ?_; clear F105
  refine qp 6 (.bool (!(goodS x60 (p + n)))) F108 rfl rfl (fun W => (rn_move (F108.get rfl))) fun _ F110 => ?_; clear F108
  rcases Bool.eq_false_or_eq_true (goodS x60 (p + n)) with hc111 | hc111
  ·skip
   have z112 := good_kind hc111
   refine qp 7 (.slice A65 x60.length c66) F110 rfl (wanted_guard rfl rfl rfl F110 rfl (not_t hc111) rfl) (fun W => (rn_move (F110.get rfl))) fun _ F114 => ?_; clear F110
   obtain ⟨b115, o116, hA117, -⟩ := Fl.at d100 (by omega)
   refine qp 8 (.pointer (some ⟨b115, o116 + 10, none⟩)) F114 rfl (wanted_guard rfl rfl rfl F114 rfl (not_t hc111) rfl) (fun W => (rn_index1 Try.underlying35 inf5 ((F114.get rfl).trans (by rw [hA117])) rfl (by omega : (0 : Int) ≤ 10) (by omega : (10 : Int) < ((x60.length : Nat) : Int)))) fun _ F119 => ?_; clear F114
   have hS120 : Ext w88 w102 := ((Ext.refl w88).trans hx103)
   refine qs 9 (.int .u8 ((x60.getD 10 0).toNat : Nat)) F119 rfl (wanted_guard rfl rfl rfl F119 rfl (not_t hc111) rfl) hS120 (fun W hW => (rn_load (isAgg_no Try.underlying5 rfl) (F119.get rfl) (Fl.cellAt (d100.ext hW) hA117 (byteVals_at (i := 10) (by omega))))) fun _ F122 => ?_; clear F119
   refine qp 10 (.int .u8 (((x60.getD 10 0) % (2 : UInt8)).toNat : Nat)) F122 rfl (wanted_guard rfl rfl rfl F122 rfl (not_t hc111) rfl) (fun W => (rn_rem8 (a := (x60.getD 10 0)) (b := (2 : UInt8)) (F122.get rfl) rfl (by decide))) fun _ F124 => ?_; clear F122
   refine qp 11 (.bool (decide (((((x60.getD 10 0) % (2 : UInt8)).toNat : Nat) : Int) = (1 : Int)))) F124 rfl (wanted_guard rfl rfl rfl F124 rfl (not_t hc111) rfl) (fun W => (rn_eql (F124.get rfl) rfl)) fun _ F126 => ?_; clear F124
   refine qp 12 (.int .i64 (n : Nat)) F126 rfl (wanted_guard rfl rfl rfl F126 rfl (not_t hc111) rfl) (fun W => (rn_move (F126.get rfl))) fun _ F128 => ?_; clear F126
   refine qp 13 (.bool (decide (((n : Nat) : Int) = (0 : Int)))) F128 rfl (wanted_guard rfl rfl rfl F128 rfl (not_t hc111) rfl) (fun W => (rn_eql (F128.get rfl) rfl)) fun _ F130 => ?_; clear F128
   by_cases hc131 : ((((x60.getD 10 0) % (2 : UInt8)).toNat : Nat) : Int) = (1 : Int)
   ·skip
    by_cases hc132 : ((n : Nat) : Int) = (0 : Int)
    ·skip
     refine qp 14 (.bool false) F130 rfl (wanted_guard rfl rfl rfl F130 rfl (not_t hc111) rfl) (fun W => (rn_neB Try.underlying4 (F130.get rfl) (F130.get rfl) (show _ = true from (decide_eq_true hc131)) (show _ = true from (decide_eq_true hc132)) rfl)) fun _ F134 => ?_; clear F130
     refine qp 15 (.bool false) F134 rfl rfl (fun W => (rn_pickF (c_false F134 rfl (not_t hc111)) (F134.get rfl))) fun _ F136 => ?_; clear F134
     refine qp 16 (.bool false) F136 rfl rfl (fun W => (rn_move (F136.get rfl))) fun _ F138 => ?_; clear F136
     refine qp 17 (.int .i64 (n : Nat)) F138 rfl (wanted_guard rfl rfl rfl F138 rfl rfl rfl) (fun W => (rn_move (F138.get rfl))) fun _ F140 => ?_; clear F138
     refine qp 18 (.bool (decide ((0 : Int) < ((n : Nat) : Int)))) F140 rfl (wanted_guard rfl rfl rfl F140 rfl rfl rfl) (fun W => (rn_gtr (F140.get rfl) rfl)) fun _ F142 => ?_; clear F140
     refine qp 19 (.bool (decide ((0 : Int) < ((n : Nat) : Int)))) F142 rfl (wanted_guard rfl rfl rfl F142 rfl rfl rfl) (fun W => (rn_move (F142.get rfl))) fun _ F144 => ?_; clear F142
     by_cases hc145 : (0 : Int) < ((n : Nat) : Int)
     ·skip
      refine qp 20 (.slice A65 x60.length c66) F144 rfl (wanted_guard rfl rfl rfl F144 rfl (decide_eq_true hc145) rfl) (fun W => (rn_move (F144.get rfl))) fun _ F147 => ?_; clear F144
      refine qp 21 (.slice A65 4 c66) F147 rfl (wanted_guard rfl rfl rfl F147 rfl (decide_eq_true hc145) rfl) (fun W => (rn_sliceHi Try.underlying35 inf5 (F147.get rfl) rfl (by omega : (0 : Int) ≤ 4) (by omega : (4 : Int) ≤ ((c66 : Nat) : Int)))) fun _ F149 => ?_; clear F147
      refine qp 23 (.slice A L.length c) F149 rfl (wanted_guard rfl rfl rfl F149 rfl (decide_eq_true hc145) rfl) (fun W => (rn_move (F149.get rfl))) fun _ F151 => ?_; clear F149
      refine qp 24 (.int .i64 (p : Nat)) F151 rfl (wanted_guard rfl rfl rfl F151 rfl (decide_eq_true hc145) rfl) (fun W => (rn_move (F151.get rfl))) fun _ F153 => ?_; clear F151
      have d167 := ((hnc.ext hx25).ext hx89)
      obtain ⟨x154, hi155, hm156⟩ := nth_of_lt L p (by omega)
      obtain ⟨b157, o158, A159, c160, hA161, hl162, hc163, hr164, le165, le166⟩ := RBss.get d167 hi155
      have z168 : x154.length = 128 := hL x154 (List.mem_of_getElem? hi155)
      have z169 := mod8 (x154.getD 10 0); have z170 := and1_fact (x154.getD 10 0); have z171 := and2_fact (x154.getD 10 0); have z172 := UInt8.toNat_lt (x154.getD 10 0)
      refine qp 25 (.pointer (some ⟨b157, o158 + p, none⟩)) F153 rfl (wanted_guard rfl rfl rfl F153 rfl (decide_eq_true hc145) rfl) (fun W => (rn_index1 Try.underlying22 inf35 ((F153.get rfl).trans (by rw [hA161])) (F153.get rfl) (by omega : (0 : Int) ≤ (p : Nat)) (by omega : ((p : Nat) : Int) < ((L.length : Nat) : Int)))) fun _ F174 => ?_; clear F153
      refine qs 26 (.slice A159 x154.length c160) F174 rfl (wanted_guard rfl rfl rfl F174 rfl (decide_eq_true hc145) rfl) hS120 (fun W hW => (rn_load (isAgg_no Try.underlying35 rfl) (F174.get rfl) (Ext.keep ((Ext.refl w88).trans hW) hc163))) fun _ F176 => ?_; clear F174
      refine qp 27 (.slice A159 4 c160) F176 rfl (wanted_guard rfl rfl rfl F176 rfl (decide_eq_true hc145) rfl) (fun W => (rn_sliceHi Try.underlying35 inf5 (F176.get rfl) rfl (by omega : (0 : Int) ≤ 4) (by omega : (4 : Int) ≤ ((c160 : Nat) : Int)))) fun _ F178 => ?_; clear F176
      refine any_one (i := 22) (by decide +kernel) rfl ?_
      have d179 := (((RBs.fl hr70).ext hx89).ext hx103)
      have hf180 := (Fl.take_eq (j := 4) d179 (by omega) (byteVals_take1 _ _))
      have z181 := num_lt4 (l := x60.take 4) (by have := Fl.blen hf180; omega)
      refine o_call F178 rfl (wanted_guard rfl rfl rfl F178 rfl (decide_eq_true hc145) rfl) rfl rfl (rn_call (args1 (F178.get rfl)) rfl (by kernel_rfl)) (number_at (v := (.slice A65 4 c66)) (m := 4) (x60.take 4) _ hf180 (by omega)) ?_
      rintro _ w182 ⟨rfl, hx183⟩
      refine ⟨_, rfl, ?_⟩; intro a184 F185; clear F178; have z186 := hx183.size
      refine ⟨fun _ _ => (((Ext.refl w88).trans hx103).trans hx183), ?_⟩
      refine any_one (i := 28) (by decide +kernel) rfl ?_
      have d187 := (((RBs.fl hr164).ext hx103).ext hx183)
      have hf188 := (Fl.take_eq (j := 4) d187 (by omega) (byteVals_take1 _ _))
      have z189 := num_lt4 (l := x154.take 4) (by have := Fl.blen hf188; omega)
      refine o_call F185 rfl (wanted_guard rfl rfl rfl F185 rfl (decide_eq_true hc145) rfl) rfl rfl (rn_call (args1 (F185.get rfl)) rfl (by kernel_rfl)) (number_at (v := (.slice A159 4 c160)) (m := 4) (x154.take 4) _ hf188 (by omega)) ?_
      rintro _ w190 ⟨rfl, hx191⟩
      refine ⟨_, rfl, ?_⟩; intro a192 F193; clear F185; have z194 := hx191.size
      refine ⟨fun _ _ => ((((Ext.refl w88).trans hx103).trans hx183).trans hx191), ?_⟩
      refine qp 29 (.bool (decide (((num (x60.take 4) : Nat) : Int) ≠ ((num (x154.take 4) : Nat) : Int)))) F193 rfl (wanted_guard rfl rfl rfl F193 rfl (decide_eq_true hc145) rfl) (fun W => (rn_neq (F193.get rfl) (F193.get rfl))) fun _ F196 => ?_; clear F193
      refine qp 30 (.bool (decide (((num (x60.take 4) : Nat) : Int) ≠ ((num (x154.take 4) : Nat) : Int)))) F196 rfl (wanted_guard rfl rfl rfl F196 rfl rfl rfl) (fun W => (rn_pickT (c_true F196 rfl (decide_eq_true hc145)) (F196.get rfl))) fun _ F198 => ?_; clear F196
      refine qp 31 (.bool (decide (((num (x60.take 4) : Nat) : Int) ≠ ((num (x154.take 4) : Nat) : Int)))) F198 rfl rfl (fun W => (rn_pickF (c_false F198 rfl rfl) (F198.get rfl))) fun _ F200 => ?_; clear F198
      refine any_nil (by decide +kernel) ?_
      refine hK87 _ _ ?_
      clear hK87
      have F201 := (((((((((F200.nil.c F200 55 rfl).c F200 8 rfl).c F200 15 rfl).c F200 7 rfl).c F200 6 rfl).c F200 5 rfl).c F200 4 rfl).c F200 1 rfl).c F200 0 rfl)
      clear F200
      by_cases hc202 : ((num (x60.take 4) : Nat) : Int) ≠ ((num (x154.take 4) : Nat) : Int)
      ·skip
       refine wp_cond_true (c_true F201 rfl (decide_eq_true hc202)) ?_
       refine wp_seq_k (fun K203 hK203 => ?_)
       refine wp_region_lit ?_
       refine qv 0 (.slice none 0 0) F201 rfl (rn_assign rfl) fun _ F205 => ?_; clear F201
       refine qv 1 (.int .i64 0) F205 rfl (rn_assign rfl) fun _ F207 => ?_; clear F205
       refine wpList_nil ?_
       refine hK203 _ _ ?_
       clear hK203
       refine wp_ret ?_
       refine ret_then ?_
       refine ret_block ?_
       refine ret_then ?_
       refine ret_then ?_
       refine ret_block ?_
       refine ret_then ?_
       refine ret2 F207 rfl rfl rfl ?_
       have hr := Rd.bad hp27 hi61 (fun h => by have h1 : (x60.getD 10 0).toNat % 2 = 1 ↔ n = 0 := h.2.1; have h2 : num (x60.take 4) = num (x154.take 4) := h.2.2.trans (gen_at hi155); omega)
       exact ⟨none, 0, 0, by rw [recN_none hr]; rfl, by rw [recB_none hr]; exact Fl.nil _, ((((((Ext.refl w).trans hx25).trans hx89).trans hx103).trans hx183).trans hx191)⟩
      ·skip
       refine wp_cond_false (c_false F201 rfl (decide_eq_false hc202)) ?_
       refine wp_skip ?_
       refine hK86 _ _ ?_
       clear hK86
       refine wp_seq_k (fun K208 hK208 => ?_)
       refine wp_region_lit ?_
       refine qv 0 (.slice Ar nr cr) F201 rfl (rn_move (F201.get rfl)) fun _ F210 => ?_; clear F201
       refine qv 1 (.slice A65 x60.length c66) F210 rfl (rn_move (F210.get rfl)) fun _ F212 => ?_; clear F210
       refine qv 2 (.slice A65 x60.length c66) F212 rfl (rn_move (F212.get rfl)) fun _ F214 => ?_; clear F212
       refine qv 3 (.pointer (some ⟨b115, o116 + 11, none⟩)) F214 rfl (rn_index1 Try.underlying35 inf5 ((F214.get rfl).trans (by rw [hA117])) rfl (by omega : (0 : Int) ≤ 11) (by omega : (11 : Int) < ((x60.length : Nat) : Int))) fun _ F216 => ?_; clear F214
       have d217 := (((((RBs.fl hr70).ext hx89).ext hx103).ext hx183).ext hx191)
       refine qv 4 (.int .u8 ((x60.getD 11 0).toNat : Nat)) F216 rfl (rn_load (isAgg_no Try.underlying5 rfl) (F216.get rfl) (Fl.cellAt d217 hA117 (byteVals_at (i := 11) (by omega)))) fun _ F219 => ?_; clear F216
       have z220 := UInt8.toNat_lt (x60.getD 11 0)
       refine qv 5 (.int .i64 ((x60.getD 11 0).toNat : Nat)) F219 rfl (rn_convW Try.underlying5 Try.underlying3 (F219.get rfl) (cv8_64 (x60.getD 11 0))) fun _ F222 => ?_; clear F219
       refine qv 6 (.int .i64 (12 + ((x60.getD 11 0).toNat) : Nat)) F222 rfl (rn_addN (a := 12) (b := (x60.getD 11 0).toNat) rfl (F222.get rfl) (by omega)) fun _ F224 => ?_; clear F222
       refine qv 7 (.slice (some ⟨b115, o116 + 12 * 1, none⟩) ((x60.getD 11 0).toNat) (c66 - 12)) F224 rfl (rn_sliceLH (l := 12) (h := (12 + ((x60.getD 11 0).toNat))) Try.underlying35 inf5 ((F224.get rfl).trans (by rw [hA117])) rfl (F224.get rfl) (by omega) (by omega) (by omega) (by omega)) fun _ F226 => ?_; clear F224
       have r227 := (own_ext (own_ext (own_ext (own_ext r28 hx89) hx103) hx183) hx191)
       have hf236 := r227
       refine wpl_op (i := 8) rfl (o_appB (zs := byteVals (b ++ ((x60.drop 12).take ((x60.getD 11 0).toNat)))) El35 F226 rfl rfl rfl rfl rfl (F226.get rfl) (F226.get rfl) hf236 (Fl.cel (Fl.mid_eq (j := 12) (m' := (x60.getD 11 0).toNat) d217 hA117 (by omega) (by omega) (byteVals_mid _ _ _))).2.2 (by omega) (by omega) (by omega) (byteVals_app _ _) ?_)
       intro A228 c229 w230 a237 F238 r231 hg232 z233 z234 hnb235; clear F226; have z239 := hg232.size
       refine qv 9 (.slice A228 (nr + ((x60.getD 11 0).toNat)) c229) F238 rfl (rn_assign (F238.get rfl)) fun _ F241 => ?_; clear F238
       refine wpList_nil ?_
       refine hK208 _ _ ?_
       clear hK208
       have F242 := (((((((((F241.nil.c F241 55 rfl).c F241 8 rfl).c F241 15 rfl).c F241 7 rfl).c F241 6 rfl).c F241 5 rfl).c F241 4 rfl).c F241 1 rfl).c F241 0 rfl)
       clear F241
       refine wp_seq_k (fun K243 hK243 => ?_)
       refine wp_region_lit ?_
       refine qv 0 (.slice A65 x60.length c66) F242 rfl (rn_move (F242.get rfl)) fun _ F245 => ?_; clear F242
       refine qv 1 (.pointer (some ⟨b115, o116 + 10, none⟩)) F245 rfl (rn_index1 Try.underlying35 inf5 ((F245.get rfl).trans (by rw [hA117])) rfl (by omega : (0 : Int) ≤ 10) (by omega : (10 : Int) < ((x60.length : Nat) : Int))) fun _ F247 => ?_; clear F245
       have d248 := ((RBs.fl hr70).pres (Pres.row (((((Pres.refl w23).ext hx89).ext hx103).ext hx183).ext hx191) hg232 hf236 (fun b hb h => by simp only [Clip] at h; omega)))
       refine qv 2 (.int .u8 ((x60.getD 10 0).toNat : Nat)) F247 rfl (rn_load (isAgg_no Try.underlying5 rfl) (F247.get rfl) (Fl.cellAt d248 hA117 (byteVals_at (i := 10) (by omega)))) fun _ F250 => ?_; clear F247
       refine qv 3 (.bool (decide ((2 : Int) ≤ (((x60.getD 10 0).toNat : Nat) : Int)))) F250 rfl (rn_geq (F250.get rfl) rfl) fun _ F252 => ?_; clear F250
       refine wpList_nil ?_
       refine hK243 _ _ ?_
       clear hK243
       by_cases hc253 : (2 : Int) ≤ (((x60.getD 10 0).toNat : Nat) : Int)
       ·skip
        refine wp_cond_true (c_true F252 rfl (decide_eq_true hc253)) ?_
        refine wp_seq_k (fun K254 hK254 => ?_)
        refine wp_region_lit ?_
        refine qv 0 (.slice A228 (nr + ((x60.getD 11 0).toNat)) c229) F252 rfl (rn_move (F252.get rfl)) fun _ F256 => ?_; clear F252
        refine qv 1 (.int .i64 (n : Nat)) F256 rfl (rn_move (F256.get rfl)) fun _ F258 => ?_; clear F256
        refine qv 2 (.int .i64 (n + 1 : Nat)) F258 rfl (rn_addN (a := n) (b := 1) (F258.get rfl) rfl (by omega)) fun _ F260 => ?_; clear F258
        refine qv 3 (.slice A228 (nr + ((x60.getD 11 0).toNat)) c229) F260 rfl (rn_assign (F260.get rfl)) fun _ F262 => ?_; clear F260
        refine qv 4 (.int .i64 (n + 1 : Nat)) F262 rfl (rn_assign (F262.get rfl)) fun _ F264 => ?_; clear F262
        refine wpList_nil ?_
        refine hK254 _ _ ?_
        clear hK254
        have F265 := ((((((((((F264.nil.c F264 68 rfl).c F264 55 rfl).c F264 8 rfl).c F264 15 rfl).c F264 7 rfl).c F264 6 rfl).c F264 5 rfl).c F264 4 rfl).c F264 1 rfl).c F264 0 rfl)
        clear F264
        refine wp_ret ?_
        refine ret_block ?_
        refine ret_then ?_
        refine ret_then ?_
        refine ret_block ?_
        refine ret_then ?_
        refine ret2 F265 rfl rfl rfl ?_
        have hge : gen x60 = gen (L.getD p []) := by rw [gen_at hi155]; show num (x60.take 4) = num (x154.take 4); omega
        have hok : RdOk L p n x60 := ⟨hc111, by show (x60.getD 10 0).toNat % 2 = 1 ↔ n = 0; omega, hge⟩
        have hr := Rd.fin hp27 hi61 hok (by show 2 ≤ (x60.getD 10 0).toNat; omega)
        exact ⟨_, _, _, by rw [recN_some hr], by rw [recB_some hr]; exact Fl.sub (Fl.own (S := fun b => g7 ≤ b) r231 (fun b hb => hb) (byteVals_one _)) (fun b hb => by omega), (ext_row ((((((Ext.refl w).trans hx25).trans hx89).trans hx103).trans hx183).trans hx191) hg232 hf236 (by omega))⟩
       ·skip
        refine wp_cond_false (c_false F252 rfl (decide_eq_false hc253)) ?_
        refine wp_skip ?_
        refine hK50 _ _ ?_
        clear hK50
        refine wp_region_lit ?_
        refine qv 0 (.int .i64 (n : Nat)) F252 rfl (rn_move (F252.get rfl)) fun _ F267 => ?_; clear F252
        refine qv 1 (.int .i64 (n + 1 : Nat)) F267 rfl (rn_addN (a := n) (b := 1) (F267.get rfl) rfl (by omega)) fun _ F269 => ?_; clear F267
        refine qv 2 (.int .i64 (n + 1 : Nat)) F269 rfl (rn_assign (F269.get rfl)) fun _ F271 => ?_; clear F269
        refine wpList_nil ?_
        have hge : gen x60 = gen (L.getD p []) := by rw [gen_at hi155]; show num (x60.take 4) = num (x154.take 4); omega
        have hok : RdOk L p n x60 := ⟨hc111, by show (x60.getD 10 0).toNat % 2 = 1 ↔ n = 0; omega, hge⟩
        refine ⟨⟨(n + 1), A228, nr + ((x60.getD 11 0).toNat), c229, b ++ ((x60.drop 12).take ((x60.getD 11 0).toNat)), ((((((F271.nil.cons (q_get F271 (t := 7) rfl (by first | rfl | (congr 1; omega) | (congr 1; done)))).cons (q_get F271 (t := 6) rfl (by first | rfl | (congr 1; omega) | (congr 1; done)))).cons (q_get F271 (t := 5) rfl rfl)).cons (q_get F271 (t := 4) rfl rfl)).cons (q_get F271 (t := 1) rfl rfl)).cons (q_get F271 (t := 0) rfl rfl)), ⟨by omega, by omega⟩, (Rd.next hp27 hi61 hok (by show ¬ 2 ≤ (x60.getD 10 0).toNat; omega)), (ext_row ((((((Ext.refl w).trans hx25).trans hx89).trans hx103).trans hx183).trans hx191) hg232 hf236 (by omega)), r231, (by omega), (by omega)⟩, ?_⟩
        rw [F271.get (t := 7) rfl, hL31.get (t := 7) rfl]; simp [intOf] <;> omega
     ·skip
      refine qk 20 F144 rfl (decide_eq_false hc145) fun _ F273 => ?_; clear F144
      refine qk 21 F273 rfl (decide_eq_false hc145) fun _ F275 => ?_; clear F273
      refine qk 23 F275 rfl (decide_eq_false hc145) fun _ F277 => ?_; clear F275
      refine qk 24 F277 rfl (decide_eq_false hc145) fun _ F279 => ?_; clear F277
      refine qk 25 F279 rfl (decide_eq_false hc145) fun _ F281 => ?_; clear F279
      refine qk 26 F281 rfl (decide_eq_false hc145) fun _ F283 => ?_; clear F281
      refine qk 27 F283 rfl (decide_eq_false hc145) fun _ F285 => ?_; clear F283
      refine any_one (i := 22) (by decide +kernel) rfl ?_
      refine o_skip F285 rfl (unwanted_guard rfl rfl rfl F285 rfl (decide_eq_false hc145) rfl) rfl rfl ?_
      intro a286 F287; clear F285
      refine ⟨fun _ _ => ((Ext.refl w88).trans hx103), ?_⟩
      refine any_one (i := 28) (by decide +kernel) rfl ?_
      refine o_skip F287 rfl (unwanted_guard rfl rfl rfl F287 rfl (decide_eq_false hc145) rfl) rfl rfl ?_
      intro a288 F289; clear F287
      refine ⟨fun _ _ => ((Ext.refl w88).trans hx103), ?_⟩
      refine qk 29 F289 rfl (decide_eq_false hc145) fun _ F291 => ?_; clear F289
      refine qp 30 (.bool false) F291 rfl (wanted_guard rfl rfl rfl F291 rfl rfl rfl) (fun W => (rn_pickF (c_false F291 rfl (decide_eq_false hc145)) rfl)) fun _ F293 => ?_; clear F291
      refine qp 31 (.bool false) F293 rfl rfl (fun W => (rn_pickF (c_false F293 rfl rfl) (F293.get rfl))) fun _ F295 => ?_; clear F293
      refine any_nil (by decide +kernel) ?_
      refine hK87 _ _ ?_
      clear hK87
      have F296 := (((((((((F295.nil.c F295 55 rfl).c F295 8 rfl).c F295 15 rfl).c F295 7 rfl).c F295 6 rfl).c F295 5 rfl).c F295 4 rfl).c F295 1 rfl).c F295 0 rfl)
      clear F295
      refine wp_cond_false (c_false F296 rfl rfl) ?_
      refine wp_skip ?_
      refine hK86 _ _ ?_
      clear hK86
      refine wp_seq_k (fun K297 hK297 => ?_)
      refine wp_region_lit ?_
      refine qv 0 (.slice Ar nr cr) F296 rfl (rn_move (F296.get rfl)) fun _ F299 => ?_; clear F296
      refine qv 1 (.slice A65 x60.length c66) F299 rfl (rn_move (F299.get rfl)) fun _ F301 => ?_; clear F299
      refine qv 2 (.slice A65 x60.length c66) F301 rfl (rn_move (F301.get rfl)) fun _ F303 => ?_; clear F301
      refine qv 3 (.pointer (some ⟨b115, o116 + 11, none⟩)) F303 rfl (rn_index1 Try.underlying35 inf5 ((F303.get rfl).trans (by rw [hA117])) rfl (by omega : (0 : Int) ≤ 11) (by omega : (11 : Int) < ((x60.length : Nat) : Int))) fun _ F305 => ?_; clear F303
      have d306 := (((RBs.fl hr70).ext hx89).ext hx103)
      refine qv 4 (.int .u8 ((x60.getD 11 0).toNat : Nat)) F305 rfl (rn_load (isAgg_no Try.underlying5 rfl) (F305.get rfl) (Fl.cellAt d306 hA117 (byteVals_at (i := 11) (by omega)))) fun _ F308 => ?_; clear F305
      have z309 := UInt8.toNat_lt (x60.getD 11 0)
      refine qv 5 (.int .i64 ((x60.getD 11 0).toNat : Nat)) F308 rfl (rn_convW Try.underlying5 Try.underlying3 (F308.get rfl) (cv8_64 (x60.getD 11 0))) fun _ F311 => ?_; clear F308
      refine qv 6 (.int .i64 (12 + ((x60.getD 11 0).toNat) : Nat)) F311 rfl (rn_addN (a := 12) (b := (x60.getD 11 0).toNat) rfl (F311.get rfl) (by omega)) fun _ F313 => ?_; clear F311
      refine qv 7 (.slice (some ⟨b115, o116 + 12 * 1, none⟩) ((x60.getD 11 0).toNat) (c66 - 12)) F313 rfl (rn_sliceLH (l := 12) (h := (12 + ((x60.getD 11 0).toNat))) Try.underlying35 inf5 ((F313.get rfl).trans (by rw [hA117])) rfl (F313.get rfl) (by omega) (by omega) (by omega) (by omega)) fun _ F315 => ?_; clear F313
      have r316 := (own_ext (own_ext r28 hx89) hx103)
      have hf325 := r316
      refine wpl_op (i := 8) rfl (o_appB (zs := byteVals (b ++ ((x60.drop 12).take ((x60.getD 11 0).toNat)))) El35 F315 rfl rfl rfl rfl rfl (F315.get rfl) (F315.get rfl) hf325 (Fl.cel (Fl.mid_eq (j := 12) (m' := (x60.getD 11 0).toNat) d306 hA117 (by omega) (by omega) (byteVals_mid _ _ _))).2.2 (by omega) (by omega) (by omega) (byteVals_app _ _) ?_)
      intro A317 c318 w319 a326 F327 r320 hg321 z322 z323 hnb324; clear F315; have z328 := hg321.size
      refine qv 9 (.slice A317 (nr + ((x60.getD 11 0).toNat)) c318) F327 rfl (rn_assign (F327.get rfl)) fun _ F330 => ?_; clear F327
      refine wpList_nil ?_
      refine hK297 _ _ ?_
      clear hK297
      have F331 := (((((((((F330.nil.c F330 55 rfl).c F330 8 rfl).c F330 15 rfl).c F330 7 rfl).c F330 6 rfl).c F330 5 rfl).c F330 4 rfl).c F330 1 rfl).c F330 0 rfl)
      clear F330
      refine wp_seq_k (fun K332 hK332 => ?_)
      refine wp_region_lit ?_
      refine qv 0 (.slice A65 x60.length c66) F331 rfl (rn_move (F331.get rfl)) fun _ F334 => ?_; clear F331
      refine qv 1 (.pointer (some ⟨b115, o116 + 10, none⟩)) F334 rfl (rn_index1 Try.underlying35 inf5 ((F334.get rfl).trans (by rw [hA117])) rfl (by omega : (0 : Int) ≤ 10) (by omega : (10 : Int) < ((x60.length : Nat) : Int))) fun _ F336 => ?_; clear F334
      have d337 := ((RBs.fl hr70).pres (Pres.row (((Pres.refl w23).ext hx89).ext hx103) hg321 hf325 (fun b hb h => by simp only [Clip] at h; omega)))
      refine qv 2 (.int .u8 ((x60.getD 10 0).toNat : Nat)) F336 rfl (rn_load (isAgg_no Try.underlying5 rfl) (F336.get rfl) (Fl.cellAt d337 hA117 (byteVals_at (i := 10) (by omega)))) fun _ F339 => ?_; clear F336
      refine qv 3 (.bool (decide ((2 : Int) ≤ (((x60.getD 10 0).toNat : Nat) : Int)))) F339 rfl (rn_geq (F339.get rfl) rfl) fun _ F341 => ?_; clear F339
      refine wpList_nil ?_
      refine hK332 _ _ ?_
      clear hK332
      by_cases hc342 : (2 : Int) ≤ (((x60.getD 10 0).toNat : Nat) : Int)
      ·skip
       refine wp_cond_true (c_true F341 rfl (decide_eq_true hc342)) ?_
       refine wp_seq_k (fun K343 hK343 => ?_)
       refine wp_region_lit ?_
       refine qv 0 (.slice A317 (nr + ((x60.getD 11 0).toNat)) c318) F341 rfl (rn_move (F341.get rfl)) fun _ F345 => ?_; clear F341
       refine qv 1 (.int .i64 (n : Nat)) F345 rfl (rn_move (F345.get rfl)) fun _ F347 => ?_; clear F345
       refine qv 2 (.int .i64 (n + 1 : Nat)) F347 rfl (rn_addN (a := n) (b := 1) (F347.get rfl) rfl (by omega)) fun _ F349 => ?_; clear F347
       refine qv 3 (.slice A317 (nr + ((x60.getD 11 0).toNat)) c318) F349 rfl (rn_assign (F349.get rfl)) fun _ F351 => ?_; clear F349
       refine qv 4 (.int .i64 (n + 1 : Nat)) F351 rfl (rn_assign (F351.get rfl)) fun _ F353 => ?_; clear F351
       refine wpList_nil ?_
       refine hK343 _ _ ?_
       clear hK343
       have F354 := ((((((((((F353.nil.c F353 68 rfl).c F353 55 rfl).c F353 8 rfl).c F353 15 rfl).c F353 7 rfl).c F353 6 rfl).c F353 5 rfl).c F353 4 rfl).c F353 1 rfl).c F353 0 rfl)
       clear F353
       refine wp_ret ?_
       refine ret_block ?_
       refine ret_then ?_
       refine ret_then ?_
       refine ret_block ?_
       refine ret_then ?_
       refine ret2 F354 rfl rfl rfl ?_
       have hge : gen x60 = gen (L.getD p []) := gen_same (by omega) hi61
       have hok : RdOk L p n x60 := ⟨hc111, by show (x60.getD 10 0).toNat % 2 = 1 ↔ n = 0; omega, hge⟩
       have hr := Rd.fin hp27 hi61 hok (by show 2 ≤ (x60.getD 10 0).toNat; omega)
       exact ⟨_, _, _, by rw [recN_some hr], by rw [recB_some hr]; exact Fl.sub (Fl.own (S := fun b => g7 ≤ b) r320 (fun b hb => hb) (byteVals_one _)) (fun b hb => by omega), (ext_row ((((Ext.refl w).trans hx25).trans hx89).trans hx103) hg321 hf325 (by omega))⟩
      ·skip
       refine wp_cond_false (c_false F341 rfl (decide_eq_false hc342)) ?_
       refine wp_skip ?_
       refine hK50 _ _ ?_
       clear hK50
       refine wp_region_lit ?_
       refine qv 0 (.int .i64 (n : Nat)) F341 rfl (rn_move (F341.get rfl)) fun _ F356 => ?_; clear F341
       refine qv 1 (.int .i64 (n + 1 : Nat)) F356 rfl (rn_addN (a := n) (b := 1) (F356.get rfl) rfl (by omega)) fun _ F358 => ?_; clear F356
       refine qv 2 (.int .i64 (n + 1 : Nat)) F358 rfl (rn_assign (F358.get rfl)) fun _ F360 => ?_; clear F358
       refine wpList_nil ?_
       have hge : gen x60 = gen (L.getD p []) := gen_same (by omega) hi61
       have hok : RdOk L p n x60 := ⟨hc111, by show (x60.getD 10 0).toNat % 2 = 1 ↔ n = 0; omega, hge⟩
       refine ⟨⟨(n + 1), A317, nr + ((x60.getD 11 0).toNat), c318, b ++ ((x60.drop 12).take ((x60.getD 11 0).toNat)), ((((((F360.nil.cons (q_get F360 (t := 7) rfl (by first | rfl | (congr 1; omega) | (congr 1; done)))).cons (q_get F360 (t := 6) rfl (by first | rfl | (congr 1; omega) | (congr 1; done)))).cons (q_get F360 (t := 5) rfl rfl)).cons (q_get F360 (t := 4) rfl rfl)).cons (q_get F360 (t := 1) rfl rfl)).cons (q_get F360 (t := 0) rfl rfl)), ⟨by omega, by omega⟩, (Rd.next hp27 hi61 hok (by show ¬ 2 ≤ (x60.getD 10 0).toNat; omega)), (ext_row ((((Ext.refl w).trans hx25).trans hx89).trans hx103) hg321 hf325 (by omega)), r320, (by omega), (by omega)⟩, ?_⟩
       rw [F360.get (t := 7) rfl, hL31.get (t := 7) rfl]; simp [intOf] <;> omega
    ·skip
     refine qp 14 (.bool true) F130 rfl (wanted_guard rfl rfl rfl F130 rfl (not_t hc111) rfl) (fun W => (rn_neB Try.underlying4 (F130.get rfl) (F130.get rfl) (show _ = true from (decide_eq_true hc131)) (show _ = false from (decide_eq_false hc132)) rfl)) fun _ F362 => ?_; clear F130
     refine qp 15 (.bool true) F362 rfl rfl (fun W => (rn_pickF (c_false F362 rfl (not_t hc111)) (F362.get rfl))) fun _ F364 => ?_; clear F362
     refine qp 16 (.bool true) F364 rfl rfl (fun W => (rn_move (F364.get rfl))) fun _ F366 => ?_; clear F364
     refine qk 17 F366 rfl rfl fun _ F368 => ?_; clear F366
     refine qk 18 F368 rfl rfl fun _ F370 => ?_; clear F368
     refine qk 19 F370 rfl rfl fun _ F372 => ?_; clear F370
     refine qn 20 F372 rfl (unwanted_undef rfl rfl rfl F372 rfl) fun _ F374 => ?_; clear F372
     refine qn 21 F374 rfl (unwanted_undef rfl rfl rfl F374 rfl) fun _ F376 => ?_; clear F374
     refine qn 23 F376 rfl (unwanted_undef rfl rfl rfl F376 rfl) fun _ F378 => ?_; clear F376
     refine qn 24 F378 rfl (unwanted_undef rfl rfl rfl F378 rfl) fun _ F380 => ?_; clear F378
     refine qn 25 F380 rfl (unwanted_undef rfl rfl rfl F380 rfl) fun _ F382 => ?_; clear F380
     refine qn 26 F382 rfl (unwanted_undef rfl rfl rfl F382 rfl) fun _ F384 => ?_; clear F382
     refine qn 27 F384 rfl (unwanted_undef rfl rfl rfl F384 rfl) fun _ F386 => ?_; clear F384
     refine any_one (i := 22) (by decide +kernel) rfl ?_
     refine o_skip F386 rfl (unwanted_undef rfl rfl rfl F386 rfl) rfl rfl ?_
     intro a387 F388; clear F386
     refine ⟨fun _ _ => ((Ext.refl w88).trans hx103), ?_⟩
     refine any_one (i := 28) (by decide +kernel) rfl ?_
     refine o_skip F388 rfl (unwanted_undef rfl rfl rfl F388 rfl) rfl rfl ?_
     intro a389 F390; clear F388
     refine ⟨fun _ _ => ((Ext.refl w88).trans hx103), ?_⟩
     refine qn 29 F390 rfl (unwanted_undef rfl rfl rfl F390 rfl) fun _ F392 => ?_; clear F390
     refine qk 30 F392 rfl rfl fun _ F394 => ?_; clear F392
     refine qp 31 (.bool true) F394 rfl rfl (fun W => (rn_pickT (c_true F394 rfl rfl) rfl)) fun _ F396 => ?_; clear F394
     refine any_nil (by decide +kernel) ?_
     refine hK87 _ _ ?_
     clear hK87
     have F397 := (((((((((F396.nil.c F396 55 rfl).c F396 8 rfl).c F396 15 rfl).c F396 7 rfl).c F396 6 rfl).c F396 5 rfl).c F396 4 rfl).c F396 1 rfl).c F396 0 rfl)
     clear F396
     refine wp_cond_true (c_true F397 rfl rfl) ?_
     refine wp_seq_k (fun K398 hK398 => ?_)
     refine wp_region_lit ?_
     refine qv 0 (.slice none 0 0) F397 rfl (rn_assign rfl) fun _ F400 => ?_; clear F397
     refine qv 1 (.int .i64 0) F400 rfl (rn_assign rfl) fun _ F402 => ?_; clear F400
     refine wpList_nil ?_
     refine hK398 _ _ ?_
     clear hK398
     refine wp_ret ?_
     refine ret_then ?_
     refine ret_block ?_
     refine ret_then ?_
     refine ret_then ?_
     refine ret_block ?_
     refine ret_then ?_
     refine ret2 F402 rfl rfl rfl ?_
     have hr := Rd.bad hp27 hi61 (fun h => by have h1 : (x60.getD 10 0).toNat % 2 = 1 ↔ n = 0 := h.2.1; omega)
     exact ⟨none, 0, 0, by rw [recN_none hr]; rfl, by rw [recB_none hr]; exact Fl.nil _, ((((Ext.refl w).trans hx25).trans hx89).trans hx103)⟩
   ·skip
    by_cases hc403 : ((n : Nat) : Int) = (0 : Int)
    ·skip
     refine qp 14 (.bool true) F130 rfl (wanted_guard rfl rfl rfl F130 rfl (not_t hc111) rfl) (fun W => (rn_neB Try.underlying4 (F130.get rfl) (F130.get rfl) (show _ = false from (decide_eq_false hc131)) (show _ = true from (decide_eq_true hc403)) rfl)) fun _ F405 => ?_; clear F130
     refine qp 15 (.bool true) F405 rfl rfl (fun W => (rn_pickF (c_false F405 rfl (not_t hc111)) (F405.get rfl))) fun _ F407 => ?_; clear F405
     refine qp 16 (.bool true) F407 rfl rfl (fun W => (rn_move (F407.get rfl))) fun _ F409 => ?_; clear F407
     refine qk 17 F409 rfl rfl fun _ F411 => ?_; clear F409
     refine qk 18 F411 rfl rfl fun _ F413 => ?_; clear F411
     refine qk 19 F413 rfl rfl fun _ F415 => ?_; clear F413
     refine qn 20 F415 rfl (unwanted_undef rfl rfl rfl F415 rfl) fun _ F417 => ?_; clear F415
     refine qn 21 F417 rfl (unwanted_undef rfl rfl rfl F417 rfl) fun _ F419 => ?_; clear F417
     refine qn 23 F419 rfl (unwanted_undef rfl rfl rfl F419 rfl) fun _ F421 => ?_; clear F419
     refine qn 24 F421 rfl (unwanted_undef rfl rfl rfl F421 rfl) fun _ F423 => ?_; clear F421
     refine qn 25 F423 rfl (unwanted_undef rfl rfl rfl F423 rfl) fun _ F425 => ?_; clear F423
     refine qn 26 F425 rfl (unwanted_undef rfl rfl rfl F425 rfl) fun _ F427 => ?_; clear F425
     refine qn 27 F427 rfl (unwanted_undef rfl rfl rfl F427 rfl) fun _ F429 => ?_; clear F427
     refine any_one (i := 22) (by decide +kernel) rfl ?_
     refine o_skip F429 rfl (unwanted_undef rfl rfl rfl F429 rfl) rfl rfl ?_
     intro a430 F431; clear F429
     refine ⟨fun _ _ => ((Ext.refl w88).trans hx103), ?_⟩
     refine any_one (i := 28) (by decide +kernel) rfl ?_
     refine o_skip F431 rfl (unwanted_undef rfl rfl rfl F431 rfl) rfl rfl ?_
     intro a432 F433; clear F431
     refine ⟨fun _ _ => ((Ext.refl w88).trans hx103), ?_⟩
     refine qn 29 F433 rfl (unwanted_undef rfl rfl rfl F433 rfl) fun _ F435 => ?_; clear F433
     refine qk 30 F435 rfl rfl fun _ F437 => ?_; clear F435
     refine qp 31 (.bool true) F437 rfl rfl (fun W => (rn_pickT (c_true F437 rfl rfl) rfl)) fun _ F439 => ?_; clear F437
     refine any_nil (by decide +kernel) ?_
     refine hK87 _ _ ?_
     clear hK87
     have F440 := (((((((((F439.nil.c F439 55 rfl).c F439 8 rfl).c F439 15 rfl).c F439 7 rfl).c F439 6 rfl).c F439 5 rfl).c F439 4 rfl).c F439 1 rfl).c F439 0 rfl)
     clear F439
     refine wp_cond_true (c_true F440 rfl rfl) ?_
     refine wp_seq_k (fun K441 hK441 => ?_)
     refine wp_region_lit ?_
     refine qv 0 (.slice none 0 0) F440 rfl (rn_assign rfl) fun _ F443 => ?_; clear F440
     refine qv 1 (.int .i64 0) F443 rfl (rn_assign rfl) fun _ F445 => ?_; clear F443
     refine wpList_nil ?_
     refine hK441 _ _ ?_
     clear hK441
     refine wp_ret ?_
     refine ret_then ?_
     refine ret_block ?_
     refine ret_then ?_
     refine ret_then ?_
     refine ret_block ?_
     refine ret_then ?_
     refine ret2 F445 rfl rfl rfl ?_
     have hr := Rd.bad hp27 hi61 (fun h => by have h1 : (x60.getD 10 0).toNat % 2 = 1 ↔ n = 0 := h.2.1; omega)
     exact ⟨none, 0, 0, by rw [recN_none hr]; rfl, by rw [recB_none hr]; exact Fl.nil _, ((((Ext.refl w).trans hx25).trans hx89).trans hx103)⟩
    ·skip
     refine qp 14 (.bool false) F130 rfl (wanted_guard rfl rfl rfl F130 rfl (not_t hc111) rfl) (fun W => (rn_neB Try.underlying4 (F130.get rfl) (F130.get rfl) (show _ = false from (decide_eq_false hc131)) (show _ = false from (decide_eq_false hc403)) rfl)) fun _ F447 => ?_; clear F130
     refine qp 15 (.bool false) F447 rfl rfl (fun W => (rn_pickF (c_false F447 rfl (not_t hc111)) (F447.get rfl))) fun _ F449 => ?_; clear F447
     refine qp 16 (.bool false) F449 rfl rfl (fun W => (rn_move (F449.get rfl))) fun _ F451 => ?_; clear F449
     refine qp 17 (.int .i64 (n : Nat)) F451 rfl (wanted_guard rfl rfl rfl F451 rfl rfl rfl) (fun W => (rn_move (F451.get rfl))) fun _ F453 => ?_; clear F451
     refine qp 18 (.bool (decide ((0 : Int) < ((n : Nat) : Int)))) F453 rfl (wanted_guard rfl rfl rfl F453 rfl rfl rfl) (fun W => (rn_gtr (F453.get rfl) rfl)) fun _ F455 => ?_; clear F453
     refine qp 19 (.bool (decide ((0 : Int) < ((n : Nat) : Int)))) F455 rfl (wanted_guard rfl rfl rfl F455 rfl rfl rfl) (fun W => (rn_move (F455.get rfl))) fun _ F457 => ?_; clear F455
     by_cases hc458 : (0 : Int) < ((n : Nat) : Int)
     ·skip
      refine qp 20 (.slice A65 x60.length c66) F457 rfl (wanted_guard rfl rfl rfl F457 rfl (decide_eq_true hc458) rfl) (fun W => (rn_move (F457.get rfl))) fun _ F460 => ?_; clear F457
      refine qp 21 (.slice A65 4 c66) F460 rfl (wanted_guard rfl rfl rfl F460 rfl (decide_eq_true hc458) rfl) (fun W => (rn_sliceHi Try.underlying35 inf5 (F460.get rfl) rfl (by omega : (0 : Int) ≤ 4) (by omega : (4 : Int) ≤ ((c66 : Nat) : Int)))) fun _ F462 => ?_; clear F460
      refine qp 23 (.slice A L.length c) F462 rfl (wanted_guard rfl rfl rfl F462 rfl (decide_eq_true hc458) rfl) (fun W => (rn_move (F462.get rfl))) fun _ F464 => ?_; clear F462
      refine qp 24 (.int .i64 (p : Nat)) F464 rfl (wanted_guard rfl rfl rfl F464 rfl (decide_eq_true hc458) rfl) (fun W => (rn_move (F464.get rfl))) fun _ F466 => ?_; clear F464
      have d480 := ((hnc.ext hx25).ext hx89)
      obtain ⟨x467, hi468, hm469⟩ := nth_of_lt L p (by omega)
      obtain ⟨b470, o471, A472, c473, hA474, hl475, hc476, hr477, le478, le479⟩ := RBss.get d480 hi468
      have z481 : x467.length = 128 := hL x467 (List.mem_of_getElem? hi468)
      have z482 := mod8 (x467.getD 10 0); have z483 := and1_fact (x467.getD 10 0); have z484 := and2_fact (x467.getD 10 0); have z485 := UInt8.toNat_lt (x467.getD 10 0)
      refine qp 25 (.pointer (some ⟨b470, o471 + p, none⟩)) F466 rfl (wanted_guard rfl rfl rfl F466 rfl (decide_eq_true hc458) rfl) (fun W => (rn_index1 Try.underlying22 inf35 ((F466.get rfl).trans (by rw [hA474])) (F466.get rfl) (by omega : (0 : Int) ≤ (p : Nat)) (by omega : ((p : Nat) : Int) < ((L.length : Nat) : Int)))) fun _ F487 => ?_; clear F466
      refine qs 26 (.slice A472 x467.length c473) F487 rfl (wanted_guard rfl rfl rfl F487 rfl (decide_eq_true hc458) rfl) hS120 (fun W hW => (rn_load (isAgg_no Try.underlying35 rfl) (F487.get rfl) (Ext.keep ((Ext.refl w88).trans hW) hc476))) fun _ F489 => ?_; clear F487
      refine qp 27 (.slice A472 4 c473) F489 rfl (wanted_guard rfl rfl rfl F489 rfl (decide_eq_true hc458) rfl) (fun W => (rn_sliceHi Try.underlying35 inf5 (F489.get rfl) rfl (by omega : (0 : Int) ≤ 4) (by omega : (4 : Int) ≤ ((c473 : Nat) : Int)))) fun _ F491 => ?_; clear F489
      refine any_one (i := 22) (by decide +kernel) rfl ?_
      have d492 := (((RBs.fl hr70).ext hx89).ext hx103)
      have hf493 := (Fl.take_eq (j := 4) d492 (by omega) (byteVals_take1 _ _))
      have z494 := num_lt4 (l := x60.take 4) (by have := Fl.blen hf493; omega)
      refine o_call F491 rfl (wanted_guard rfl rfl rfl F491 rfl (decide_eq_true hc458) rfl) rfl rfl (rn_call (args1 (F491.get rfl)) rfl (by kernel_rfl)) (number_at (v := (.slice A65 4 c66)) (m := 4) (x60.take 4) _ hf493 (by omega)) ?_
      rintro _ w495 ⟨rfl, hx496⟩
      refine ⟨_, rfl, ?_⟩; intro a497 F498; clear F491; have z499 := hx496.size
      refine ⟨fun _ _ => (((Ext.refl w88).trans hx103).trans hx496), ?_⟩
      refine any_one (i := 28) (by decide +kernel) rfl ?_
      have d500 := (((RBs.fl hr477).ext hx103).ext hx496)
      have hf501 := (Fl.take_eq (j := 4) d500 (by omega) (byteVals_take1 _ _))
      have z502 := num_lt4 (l := x467.take 4) (by have := Fl.blen hf501; omega)
      refine o_call F498 rfl (wanted_guard rfl rfl rfl F498 rfl (decide_eq_true hc458) rfl) rfl rfl (rn_call (args1 (F498.get rfl)) rfl (by kernel_rfl)) (number_at (v := (.slice A472 4 c473)) (m := 4) (x467.take 4) _ hf501 (by omega)) ?_
      rintro _ w503 ⟨rfl, hx504⟩
      refine ⟨_, rfl, ?_⟩; intro a505 F506; clear F498; have z507 := hx504.size
      refine ⟨fun _ _ => ((((Ext.refl w88).trans hx103).trans hx496).trans hx504), ?_⟩
      refine qp 29 (.bool (decide (((num (x60.take 4) : Nat) : Int) ≠ ((num (x467.take 4) : Nat) : Int)))) F506 rfl (wanted_guard rfl rfl rfl F506 rfl (decide_eq_true hc458) rfl) (fun W => (rn_neq (F506.get rfl) (F506.get rfl))) fun _ F509 => ?_; clear F506
      refine qp 30 (.bool (decide (((num (x60.take 4) : Nat) : Int) ≠ ((num (x467.take 4) : Nat) : Int)))) F509 rfl (wanted_guard rfl rfl rfl F509 rfl rfl rfl) (fun W => (rn_pickT (c_true F509 rfl (decide_eq_true hc458)) (F509.get rfl))) fun _ F511 => ?_; clear F509
      refine qp 31 (.bool (decide (((num (x60.take 4) : Nat) : Int) ≠ ((num (x467.take 4) : Nat) : Int)))) F511 rfl rfl (fun W => (rn_pickF (c_false F511 rfl rfl) (F511.get rfl))) fun _ F513 => ?_; clear F511
      refine any_nil (by decide +kernel) ?_
      refine hK87 _ _ ?_
      clear hK87
      have F514 := (((((((((F513.nil.c F513 55 rfl).c F513 8 rfl).c F513 15 rfl).c F513 7 rfl).c F513 6 rfl).c F513 5 rfl).c F513 4 rfl).c F513 1 rfl).c F513 0 rfl)
      clear F513
      by_cases hc515 : ((num (x60.take 4) : Nat) : Int) ≠ ((num (x467.take 4) : Nat) : Int)
      ·skip
       refine wp_cond_true (c_true F514 rfl (decide_eq_true hc515)) ?_
       refine wp_seq_k (fun K516 hK516 => ?_)
       refine wp_region_lit ?_
       refine qv 0 (.slice none 0 0) F514 rfl (rn_assign rfl) fun _ F518 => ?_; clear F514
       refine qv 1 (.int .i64 0) F518 rfl (rn_assign rfl) fun _ F520 => ?_; clear F518
       refine wpList_nil ?_
       refine hK516 _ _ ?_
       clear hK516
       refine wp_ret ?_
       refine ret_then ?_
       refine ret_block ?_
       refine ret_then ?_
       refine ret_then ?_
       refine ret_block ?_
       refine ret_then ?_
       refine ret2 F520 rfl rfl rfl ?_
       have hr := Rd.bad hp27 hi61 (fun h => by have h1 : (x60.getD 10 0).toNat % 2 = 1 ↔ n = 0 := h.2.1; have h2 : num (x60.take 4) = num (x467.take 4) := h.2.2.trans (gen_at hi468); omega)
       exact ⟨none, 0, 0, by rw [recN_none hr]; rfl, by rw [recB_none hr]; exact Fl.nil _, ((((((Ext.refl w).trans hx25).trans hx89).trans hx103).trans hx496).trans hx504)⟩
      ·skip
       refine wp_cond_false (c_false F514 rfl (decide_eq_false hc515)) ?_
       refine wp_skip ?_
       refine hK86 _ _ ?_
       clear hK86
       refine wp_seq_k (fun K521 hK521 => ?_)
       refine wp_region_lit ?_
       refine qv 0 (.slice Ar nr cr) F514 rfl (rn_move (F514.get rfl)) fun _ F523 => ?_; clear F514
       refine qv 1 (.slice A65 x60.length c66) F523 rfl (rn_move (F523.get rfl)) fun _ F525 => ?_; clear F523
       refine qv 2 (.slice A65 x60.length c66) F525 rfl (rn_move (F525.get rfl)) fun _ F527 => ?_; clear F525
       refine qv 3 (.pointer (some ⟨b115, o116 + 11, none⟩)) F527 rfl (rn_index1 Try.underlying35 inf5 ((F527.get rfl).trans (by rw [hA117])) rfl (by omega : (0 : Int) ≤ 11) (by omega : (11 : Int) < ((x60.length : Nat) : Int))) fun _ F529 => ?_; clear F527
       have d530 := (((((RBs.fl hr70).ext hx89).ext hx103).ext hx496).ext hx504)
       refine qv 4 (.int .u8 ((x60.getD 11 0).toNat : Nat)) F529 rfl (rn_load (isAgg_no Try.underlying5 rfl) (F529.get rfl) (Fl.cellAt d530 hA117 (byteVals_at (i := 11) (by omega)))) fun _ F532 => ?_; clear F529
       have z533 := UInt8.toNat_lt (x60.getD 11 0)
       refine qv 5 (.int .i64 ((x60.getD 11 0).toNat : Nat)) F532 rfl (rn_convW Try.underlying5 Try.underlying3 (F532.get rfl) (cv8_64 (x60.getD 11 0))) fun _ F535 => ?_; clear F532
       refine qv 6 (.int .i64 (12 + ((x60.getD 11 0).toNat) : Nat)) F535 rfl (rn_addN (a := 12) (b := (x60.getD 11 0).toNat) rfl (F535.get rfl) (by omega)) fun _ F537 => ?_; clear F535
       refine qv 7 (.slice (some ⟨b115, o116 + 12 * 1, none⟩) ((x60.getD 11 0).toNat) (c66 - 12)) F537 rfl (rn_sliceLH (l := 12) (h := (12 + ((x60.getD 11 0).toNat))) Try.underlying35 inf5 ((F537.get rfl).trans (by rw [hA117])) rfl (F537.get rfl) (by omega) (by omega) (by omega) (by omega)) fun _ F539 => ?_; clear F537
       have r540 := (own_ext (own_ext (own_ext (own_ext r28 hx89) hx103) hx496) hx504)
       have hf549 := r540
       refine wpl_op (i := 8) rfl (o_appB (zs := byteVals (b ++ ((x60.drop 12).take ((x60.getD 11 0).toNat)))) El35 F539 rfl rfl rfl rfl rfl (F539.get rfl) (F539.get rfl) hf549 (Fl.cel (Fl.mid_eq (j := 12) (m' := (x60.getD 11 0).toNat) d530 hA117 (by omega) (by omega) (byteVals_mid _ _ _))).2.2 (by omega) (by omega) (by omega) (byteVals_app _ _) ?_)
       intro A541 c542 w543 a550 F551 r544 hg545 z546 z547 hnb548; clear F539; have z552 := hg545.size
       refine qv 9 (.slice A541 (nr + ((x60.getD 11 0).toNat)) c542) F551 rfl (rn_assign (F551.get rfl)) fun _ F554 => ?_; clear F551
       refine wpList_nil ?_
       refine hK521 _ _ ?_
       clear hK521
       have F555 := (((((((((F554.nil.c F554 55 rfl).c F554 8 rfl).c F554 15 rfl).c F554 7 rfl).c F554 6 rfl).c F554 5 rfl).c F554 4 rfl).c F554 1 rfl).c F554 0 rfl)
       clear F554
       refine wp_seq_k (fun K556 hK556 => ?_)
       refine wp_region_lit ?_
       refine qv 0 (.slice A65 x60.length c66) F555 rfl (rn_move (F555.get rfl)) fun _ F558 => ?_; clear F555
       refine qv 1 (.pointer (some ⟨b115, o116 + 10, none⟩)) F558 rfl (rn_index1 Try.underlying35 inf5 ((F558.get rfl).trans (by rw [hA117])) rfl (by omega : (0 : Int) ≤ 10) (by omega : (10 : Int) < ((x60.length : Nat) : Int))) fun _ F560 => ?_; clear F558
       have d561 := ((RBs.fl hr70).pres (Pres.row (((((Pres.refl w23).ext hx89).ext hx103).ext hx496).ext hx504) hg545 hf549 (fun b hb h => by simp only [Clip] at h; omega)))
       refine qv 2 (.int .u8 ((x60.getD 10 0).toNat : Nat)) F560 rfl (rn_load (isAgg_no Try.underlying5 rfl) (F560.get rfl) (Fl.cellAt d561 hA117 (byteVals_at (i := 10) (by omega)))) fun _ F563 => ?_; clear F560
       refine qv 3 (.bool (decide ((2 : Int) ≤ (((x60.getD 10 0).toNat : Nat) : Int)))) F563 rfl (rn_geq (F563.get rfl) rfl) fun _ F565 => ?_; clear F563
       refine wpList_nil ?_
       refine hK556 _ _ ?_
       clear hK556
       by_cases hc566 : (2 : Int) ≤ (((x60.getD 10 0).toNat : Nat) : Int)
       ·skip
        refine wp_cond_true (c_true F565 rfl (decide_eq_true hc566)) ?_
        refine wp_seq_k (fun K567 hK567 => ?_)
        refine wp_region_lit ?_
        refine qv 0 (.slice A541 (nr + ((x60.getD 11 0).toNat)) c542) F565 rfl (rn_move (F565.get rfl)) fun _ F569 => ?_; clear F565
        refine qv 1 (.int .i64 (n : Nat)) F569 rfl (rn_move (F569.get rfl)) fun _ F571 => ?_; clear F569
        refine qv 2 (.int .i64 (n + 1 : Nat)) F571 rfl (rn_addN (a := n) (b := 1) (F571.get rfl) rfl (by omega)) fun _ F573 => ?_; clear F571
        refine qv 3 (.slice A541 (nr + ((x60.getD 11 0).toNat)) c542) F573 rfl (rn_assign (F573.get rfl)) fun _ F575 => ?_; clear F573
        refine qv 4 (.int .i64 (n + 1 : Nat)) F575 rfl (rn_assign (F575.get rfl)) fun _ F577 => ?_; clear F575
        refine wpList_nil ?_
        refine hK567 _ _ ?_
        clear hK567
        have F578 := ((((((((((F577.nil.c F577 68 rfl).c F577 55 rfl).c F577 8 rfl).c F577 15 rfl).c F577 7 rfl).c F577 6 rfl).c F577 5 rfl).c F577 4 rfl).c F577 1 rfl).c F577 0 rfl)
        clear F577
        refine wp_ret ?_
        refine ret_block ?_
        refine ret_then ?_
        refine ret_then ?_
        refine ret_block ?_
        refine ret_then ?_
        refine ret2 F578 rfl rfl rfl ?_
        have hge : gen x60 = gen (L.getD p []) := by rw [gen_at hi468]; show num (x60.take 4) = num (x467.take 4); omega
        have hok : RdOk L p n x60 := ⟨hc111, by show (x60.getD 10 0).toNat % 2 = 1 ↔ n = 0; omega, hge⟩
        have hr := Rd.fin hp27 hi61 hok (by show 2 ≤ (x60.getD 10 0).toNat; omega)
        exact ⟨_, _, _, by rw [recN_some hr], by rw [recB_some hr]; exact Fl.sub (Fl.own (S := fun b => g7 ≤ b) r544 (fun b hb => hb) (byteVals_one _)) (fun b hb => by omega), (ext_row ((((((Ext.refl w).trans hx25).trans hx89).trans hx103).trans hx496).trans hx504) hg545 hf549 (by omega))⟩
       ·skip
        refine wp_cond_false (c_false F565 rfl (decide_eq_false hc566)) ?_
        refine wp_skip ?_
        refine hK50 _ _ ?_
        clear hK50
        refine wp_region_lit ?_
        refine qv 0 (.int .i64 (n : Nat)) F565 rfl (rn_move (F565.get rfl)) fun _ F580 => ?_; clear F565
        refine qv 1 (.int .i64 (n + 1 : Nat)) F580 rfl (rn_addN (a := n) (b := 1) (F580.get rfl) rfl (by omega)) fun _ F582 => ?_; clear F580
        refine qv 2 (.int .i64 (n + 1 : Nat)) F582 rfl (rn_assign (F582.get rfl)) fun _ F584 => ?_; clear F582
        refine wpList_nil ?_
        have hge : gen x60 = gen (L.getD p []) := by rw [gen_at hi468]; show num (x60.take 4) = num (x467.take 4); omega
        have hok : RdOk L p n x60 := ⟨hc111, by show (x60.getD 10 0).toNat % 2 = 1 ↔ n = 0; omega, hge⟩
        refine ⟨⟨(n + 1), A541, nr + ((x60.getD 11 0).toNat), c542, b ++ ((x60.drop 12).take ((x60.getD 11 0).toNat)), ((((((F584.nil.cons (q_get F584 (t := 7) rfl (by first | rfl | (congr 1; omega) | (congr 1; done)))).cons (q_get F584 (t := 6) rfl (by first | rfl | (congr 1; omega) | (congr 1; done)))).cons (q_get F584 (t := 5) rfl rfl)).cons (q_get F584 (t := 4) rfl rfl)).cons (q_get F584 (t := 1) rfl rfl)).cons (q_get F584 (t := 0) rfl rfl)), ⟨by omega, by omega⟩, (Rd.next hp27 hi61 hok (by show ¬ 2 ≤ (x60.getD 10 0).toNat; omega)), (ext_row ((((((Ext.refl w).trans hx25).trans hx89).trans hx103).trans hx496).trans hx504) hg545 hf549 (by omega)), r544, (by omega), (by omega)⟩, ?_⟩
        rw [F584.get (t := 7) rfl, hL31.get (t := 7) rfl]; simp [intOf] <;> omega
     ·skip
      refine qk 20 F457 rfl (decide_eq_false hc458) fun _ F586 => ?_; clear F457
      refine qk 21 F586 rfl (decide_eq_false hc458) fun _ F588 => ?_; clear F586
      refine qk 23 F588 rfl (decide_eq_false hc458) fun _ F590 => ?_; clear F588
      refine qk 24 F590 rfl (decide_eq_false hc458) fun _ F592 => ?_; clear F590
      refine qk 25 F592 rfl (decide_eq_false hc458) fun _ F594 => ?_; clear F592
      refine qk 26 F594 rfl (decide_eq_false hc458) fun _ F596 => ?_; clear F594
      refine qk 27 F596 rfl (decide_eq_false hc458) fun _ F598 => ?_; clear F596
      refine any_one (i := 22) (by decide +kernel) rfl ?_
      refine o_skip F598 rfl (unwanted_guard rfl rfl rfl F598 rfl (decide_eq_false hc458) rfl) rfl rfl ?_
      intro a599 F600; clear F598
      refine ⟨fun _ _ => ((Ext.refl w88).trans hx103), ?_⟩
      refine any_one (i := 28) (by decide +kernel) rfl ?_
      refine o_skip F600 rfl (unwanted_guard rfl rfl rfl F600 rfl (decide_eq_false hc458) rfl) rfl rfl ?_
      intro a601 F602; clear F600
      refine ⟨fun _ _ => ((Ext.refl w88).trans hx103), ?_⟩
      refine qk 29 F602 rfl (decide_eq_false hc458) fun _ F604 => ?_; clear F602
      refine qp 30 (.bool false) F604 rfl (wanted_guard rfl rfl rfl F604 rfl rfl rfl) (fun W => (rn_pickF (c_false F604 rfl (decide_eq_false hc458)) rfl)) fun _ F606 => ?_; clear F604
      refine qp 31 (.bool false) F606 rfl rfl (fun W => (rn_pickF (c_false F606 rfl rfl) (F606.get rfl))) fun _ F608 => ?_; clear F606
      refine any_nil (by decide +kernel) ?_
      refine hK87 _ _ ?_
      clear hK87
      have F609 := (((((((((F608.nil.c F608 55 rfl).c F608 8 rfl).c F608 15 rfl).c F608 7 rfl).c F608 6 rfl).c F608 5 rfl).c F608 4 rfl).c F608 1 rfl).c F608 0 rfl)
      clear F608
      refine wp_cond_false (c_false F609 rfl rfl) ?_
      refine wp_skip ?_
      refine hK86 _ _ ?_
      clear hK86
      refine wp_seq_k (fun K610 hK610 => ?_)
      refine wp_region_lit ?_
      refine qv 0 (.slice Ar nr cr) F609 rfl (rn_move (F609.get rfl)) fun _ F612 => ?_; clear F609
      refine qv 1 (.slice A65 x60.length c66) F612 rfl (rn_move (F612.get rfl)) fun _ F614 => ?_; clear F612
      refine qv 2 (.slice A65 x60.length c66) F614 rfl (rn_move (F614.get rfl)) fun _ F616 => ?_; clear F614
      refine qv 3 (.pointer (some ⟨b115, o116 + 11, none⟩)) F616 rfl (rn_index1 Try.underlying35 inf5 ((F616.get rfl).trans (by rw [hA117])) rfl (by omega : (0 : Int) ≤ 11) (by omega : (11 : Int) < ((x60.length : Nat) : Int))) fun _ F618 => ?_; clear F616
      have d619 := (((RBs.fl hr70).ext hx89).ext hx103)
      refine qv 4 (.int .u8 ((x60.getD 11 0).toNat : Nat)) F618 rfl (rn_load (isAgg_no Try.underlying5 rfl) (F618.get rfl) (Fl.cellAt d619 hA117 (byteVals_at (i := 11) (by omega)))) fun _ F621 => ?_; clear F618
      have z622 := UInt8.toNat_lt (x60.getD 11 0)
      refine qv 5 (.int .i64 ((x60.getD 11 0).toNat : Nat)) F621 rfl (rn_convW Try.underlying5 Try.underlying3 (F621.get rfl) (cv8_64 (x60.getD 11 0))) fun _ F624 => ?_; clear F621
      refine qv 6 (.int .i64 (12 + ((x60.getD 11 0).toNat) : Nat)) F624 rfl (rn_addN (a := 12) (b := (x60.getD 11 0).toNat) rfl (F624.get rfl) (by omega)) fun _ F626 => ?_; clear F624
      refine qv 7 (.slice (some ⟨b115, o116 + 12 * 1, none⟩) ((x60.getD 11 0).toNat) (c66 - 12)) F626 rfl (rn_sliceLH (l := 12) (h := (12 + ((x60.getD 11 0).toNat))) Try.underlying35 inf5 ((F626.get rfl).trans (by rw [hA117])) rfl (F626.get rfl) (by omega) (by omega) (by omega) (by omega)) fun _ F628 => ?_; clear F626
      have r629 := (own_ext (own_ext r28 hx89) hx103)
      have hf638 := r629
      refine wpl_op (i := 8) rfl (o_appB (zs := byteVals (b ++ ((x60.drop 12).take ((x60.getD 11 0).toNat)))) El35 F628 rfl rfl rfl rfl rfl (F628.get rfl) (F628.get rfl) hf638 (Fl.cel (Fl.mid_eq (j := 12) (m' := (x60.getD 11 0).toNat) d619 hA117 (by omega) (by omega) (byteVals_mid _ _ _))).2.2 (by omega) (by omega) (by omega) (byteVals_app _ _) ?_)
      intro A630 c631 w632 a639 F640 r633 hg634 z635 z636 hnb637; clear F628; have z641 := hg634.size
      refine qv 9 (.slice A630 (nr + ((x60.getD 11 0).toNat)) c631) F640 rfl (rn_assign (F640.get rfl)) fun _ F643 => ?_; clear F640
      refine wpList_nil ?_
      refine hK610 _ _ ?_
      clear hK610
      have F644 := (((((((((F643.nil.c F643 55 rfl).c F643 8 rfl).c F643 15 rfl).c F643 7 rfl).c F643 6 rfl).c F643 5 rfl).c F643 4 rfl).c F643 1 rfl).c F643 0 rfl)
      clear F643
      refine wp_seq_k (fun K645 hK645 => ?_)
      refine wp_region_lit ?_
      refine qv 0 (.slice A65 x60.length c66) F644 rfl (rn_move (F644.get rfl)) fun _ F647 => ?_; clear F644
      refine qv 1 (.pointer (some ⟨b115, o116 + 10, none⟩)) F647 rfl (rn_index1 Try.underlying35 inf5 ((F647.get rfl).trans (by rw [hA117])) rfl (by omega : (0 : Int) ≤ 10) (by omega : (10 : Int) < ((x60.length : Nat) : Int))) fun _ F649 => ?_; clear F647
      have d650 := ((RBs.fl hr70).pres (Pres.row (((Pres.refl w23).ext hx89).ext hx103) hg634 hf638 (fun b hb h => by simp only [Clip] at h; omega)))
      refine qv 2 (.int .u8 ((x60.getD 10 0).toNat : Nat)) F649 rfl (rn_load (isAgg_no Try.underlying5 rfl) (F649.get rfl) (Fl.cellAt d650 hA117 (byteVals_at (i := 10) (by omega)))) fun _ F652 => ?_; clear F649
      refine qv 3 (.bool (decide ((2 : Int) ≤ (((x60.getD 10 0).toNat : Nat) : Int)))) F652 rfl (rn_geq (F652.get rfl) rfl) fun _ F654 => ?_; clear F652
      refine wpList_nil ?_
      refine hK645 _ _ ?_
      clear hK645
      by_cases hc655 : (2 : Int) ≤ (((x60.getD 10 0).toNat : Nat) : Int)
      ·skip
       refine wp_cond_true (c_true F654 rfl (decide_eq_true hc655)) ?_
       refine wp_seq_k (fun K656 hK656 => ?_)
       refine wp_region_lit ?_
       refine qv 0 (.slice A630 (nr + ((x60.getD 11 0).toNat)) c631) F654 rfl (rn_move (F654.get rfl)) fun _ F658 => ?_; clear F654
       refine qv 1 (.int .i64 (n : Nat)) F658 rfl (rn_move (F658.get rfl)) fun _ F660 => ?_; clear F658
       refine qv 2 (.int .i64 (n + 1 : Nat)) F660 rfl (rn_addN (a := n) (b := 1) (F660.get rfl) rfl (by omega)) fun _ F662 => ?_; clear F660
       refine qv 3 (.slice A630 (nr + ((x60.getD 11 0).toNat)) c631) F662 rfl (rn_assign (F662.get rfl)) fun _ F664 => ?_; clear F662
       refine qv 4 (.int .i64 (n + 1 : Nat)) F664 rfl (rn_assign (F664.get rfl)) fun _ F666 => ?_; clear F664
       refine wpList_nil ?_
       refine hK656 _ _ ?_
       clear hK656
       have F667 := ((((((((((F666.nil.c F666 68 rfl).c F666 55 rfl).c F666 8 rfl).c F666 15 rfl).c F666 7 rfl).c F666 6 rfl).c F666 5 rfl).c F666 4 rfl).c F666 1 rfl).c F666 0 rfl)
       clear F666
       refine wp_ret ?_
       refine ret_block ?_
       refine ret_then ?_
       refine ret_then ?_
       refine ret_block ?_
       refine ret_then ?_
       refine ret2 F667 rfl rfl rfl ?_
       have hge : gen x60 = gen (L.getD p []) := gen_same (by omega) hi61
       have hok : RdOk L p n x60 := ⟨hc111, by show (x60.getD 10 0).toNat % 2 = 1 ↔ n = 0; omega, hge⟩
       have hr := Rd.fin hp27 hi61 hok (by show 2 ≤ (x60.getD 10 0).toNat; omega)
       exact ⟨_, _, _, by rw [recN_some hr], by rw [recB_some hr]; exact Fl.sub (Fl.own (S := fun b => g7 ≤ b) r633 (fun b hb => hb) (byteVals_one _)) (fun b hb => by omega), (ext_row ((((Ext.refl w).trans hx25).trans hx89).trans hx103) hg634 hf638 (by omega))⟩
      ·skip
       refine wp_cond_false (c_false F654 rfl (decide_eq_false hc655)) ?_
       refine wp_skip ?_
       refine hK50 _ _ ?_
       clear hK50
       refine wp_region_lit ?_
       refine qv 0 (.int .i64 (n : Nat)) F654 rfl (rn_move (F654.get rfl)) fun _ F669 => ?_; clear F654
       refine qv 1 (.int .i64 (n + 1 : Nat)) F669 rfl (rn_addN (a := n) (b := 1) (F669.get rfl) rfl (by omega)) fun _ F671 => ?_; clear F669
       refine qv 2 (.int .i64 (n + 1 : Nat)) F671 rfl (rn_assign (F671.get rfl)) fun _ F673 => ?_; clear F671
       refine wpList_nil ?_
       have hge : gen x60 = gen (L.getD p []) := gen_same (by omega) hi61
       have hok : RdOk L p n x60 := ⟨hc111, by show (x60.getD 10 0).toNat % 2 = 1 ↔ n = 0; omega, hge⟩
       refine ⟨⟨(n + 1), A630, nr + ((x60.getD 11 0).toNat), c631, b ++ ((x60.drop 12).take ((x60.getD 11 0).toNat)), ((((((F673.nil.cons (q_get F673 (t := 7) rfl (by first | rfl | (congr 1; omega) | (congr 1; done)))).cons (q_get F673 (t := 6) rfl (by first | rfl | (congr 1; omega) | (congr 1; done)))).cons (q_get F673 (t := 5) rfl rfl)).cons (q_get F673 (t := 4) rfl rfl)).cons (q_get F673 (t := 1) rfl rfl)).cons (q_get F673 (t := 0) rfl rfl)), ⟨by omega, by omega⟩, (Rd.next hp27 hi61 hok (by show ¬ 2 ≤ (x60.getD 10 0).toNat; omega)), (ext_row ((((Ext.refl w).trans hx25).trans hx89).trans hx103) hg634 hf638 (by omega)), r633, (by omega), (by omega)⟩, ?_⟩
       rw [F673.get (t := 7) rfl, hL31.get (t := 7) rfl]; simp [intOf] <;> omega
  ·skip
   refine qk 7 F110 rfl (not_f hc111) fun _ F675 => ?_; clear F110
   refine qk 8 F675 rfl (not_f hc111) fun _ F677 => ?_; clear F675
   refine qk 9 F677 rfl (not_f hc111) fun _ F679 => ?_; clear F677
   refine qk 10 F679 rfl (not_f hc111) fun _ F681 => ?_; clear F679
   refine qk 11 F681 rfl (not_f hc111) fun _ F683 => ?_; clear F681
   refine qk 12 F683 rfl (not_f hc111) fun _ F685 => ?_; clear F683
   refine qk 13 F685 rfl (not_f hc111) fun _ F687 => ?_; clear F685
   refine qk 14 F687 rfl (not_f hc111) fun _ F689 => ?_; clear F687
   refine qp 15 (.bool true) F689 rfl rfl (fun W => (rn_pickT (c_true F689 rfl (not_f hc111)) rfl)) fun _ F691 => ?_; clear F689
   refine qp 16 (.bool true) F691 rfl rfl (fun W => (rn_move (F691.get rfl))) fun _ F693 => ?_; clear F691
   refine qk 17 F693 rfl rfl fun _ F695 => ?_; clear F693
   refine qk 18 F695 rfl rfl fun _ F697 => ?_; clear F695
   refine qk 19 F697 rfl rfl fun _ F699 => ?_; clear F697
   refine qn 20 F699 rfl (unwanted_undef rfl rfl rfl F699 rfl) fun _ F701 => ?_; clear F699
   refine qn 21 F701 rfl (unwanted_undef rfl rfl rfl F701 rfl) fun _ F703 => ?_; clear F701
   refine qn 23 F703 rfl (unwanted_undef rfl rfl rfl F703 rfl) fun _ F705 => ?_; clear F703
   refine qn 24 F705 rfl (unwanted_undef rfl rfl rfl F705 rfl) fun _ F707 => ?_; clear F705
   refine qn 25 F707 rfl (unwanted_undef rfl rfl rfl F707 rfl) fun _ F709 => ?_; clear F707
   refine qn 26 F709 rfl (unwanted_undef rfl rfl rfl F709 rfl) fun _ F711 => ?_; clear F709
   refine qn 27 F711 rfl (unwanted_undef rfl rfl rfl F711 rfl) fun _ F713 => ?_; clear F711
   refine any_one (i := 22) (by decide +kernel) rfl ?_
   refine o_skip F713 rfl (unwanted_undef rfl rfl rfl F713 rfl) rfl rfl ?_
   intro a714 F715; clear F713
   refine ⟨fun _ _ => ((Ext.refl w88).trans hx103), ?_⟩
   refine any_one (i := 28) (by decide +kernel) rfl ?_
   refine o_skip F715 rfl (unwanted_undef rfl rfl rfl F715 rfl) rfl rfl ?_
   intro a716 F717; clear F715
   refine ⟨fun _ _ => ((Ext.refl w88).trans hx103), ?_⟩
   refine qn 29 F717 rfl (unwanted_undef rfl rfl rfl F717 rfl) fun _ F719 => ?_; clear F717
   refine qk 30 F719 rfl rfl fun _ F721 => ?_; clear F719
   refine qp 31 (.bool true) F721 rfl rfl (fun W => (rn_pickT (c_true F721 rfl rfl) rfl)) fun _ F723 => ?_; clear F721
   refine any_nil (by decide +kernel) ?_
   refine hK87 _ _ ?_
   clear hK87
   have F724 := (((((((((F723.nil.c F723 55 rfl).c F723 8 rfl).c F723 15 rfl).c F723 7 rfl).c F723 6 rfl).c F723 5 rfl).c F723 4 rfl).c F723 1 rfl).c F723 0 rfl)
   clear F723
   refine wp_cond_true (c_true F724 rfl rfl) ?_
   refine wp_seq_k (fun K725 hK725 => ?_)
   refine wp_region_lit ?_
   refine qv 0 (.slice none 0 0) F724 rfl (rn_assign rfl) fun _ F727 => ?_; clear F724
   refine qv 1 (.int .i64 0) F727 rfl (rn_assign rfl) fun _ F729 => ?_; clear F727
   refine wpList_nil ?_
   refine hK725 _ _ ?_
   clear hK725
   refine wp_ret ?_
   refine ret_then ?_
   refine ret_block ?_
   refine ret_then ?_
   refine ret_then ?_
   refine ret_block ?_
   refine ret_then ?_
   refine ret2 F729 rfl rfl rfl ?_
   have hr := Rd.bad hp27 hi61 (fun h => absurd (h.1.symm.trans hc111) (by decide))
   exact ⟨none, 0, 0, by rw [recN_none hr]; rfl, by rw [recB_none hr]; exact Fl.nil _, ((((Ext.refl w).trans hx25).trans hx89).trans hx103)⟩
 ·skip
  refine wp_cond_false (c_false F48 rfl (decide_eq_false hc49)) ?_
  refine wp_exit ?_
  refine exit_then ?_
  refine exit_then ?_
  refine exit_here ?_
  refine hK17 _ _ ?_
  clear hK17
  refine wp_seq_k (fun K730 hK730 => ?_)
  refine wp_region_lit ?_
  refine qv 0 (.slice none 0 0) F48 rfl (rn_assign rfl) fun _ F732 => ?_; clear F48
  refine qv 1 (.int .i64 0) F732 rfl (rn_assign rfl) fun _ F734 => ?_; clear F732
  refine wpList_nil ?_
  refine hK730 _ _ ?_
  clear hK730
  refine wp_ret ?_
  refine ret2 F734 rfl rfl rfl ?_
  have hr := Rd.over hp27 (by omega)
  exact ⟨none, 0, 0, by rw [recN_none hr]; rfl, by rw [recB_none hr]; exact Fl.nil _, ((Ext.refl w).trans hx25)⟩

theorem record_at {v : Value} (L : List (List UInt8)) (p : Nat) (w : World) (hn : RBss S w v L) (hL : ∀ x ∈ L, x.length = 128) (hl : L.length ≤ 4096) (hp : p ≤ L.length) :
  Calls Try.prog 62 #[v, .int .i64 (p : Nat)] w (fun e w' => ∃ A k c, e = .returned (.tuple #[.slice A k c, .int .i64 (recN L p : Nat)]) ∧ Fl (fun b => w.heap.size ≤ b) w' 1 (.slice A k c) k (byteVals (recB L p)) ∧ Ext w w') := by
 obtain ⟨A, c, rfl, _⟩ := hn.form
 exact record_any A c L p w hn hL hl hp

end Go.Proofs.Ytfmhnplkpohogaa

namespace Go.Proofs.Ytfmhnplkpohogaa
open Go.RowKit

variable {S S' : Nat → Prop}

theorem El22 : El Try.prog 22 35 (.slice none 0 0) 1 24 := ⟨Try.underlying22, by kernel_rfl, rfl, by decide⟩

theorem recs_fin {w w' : World} {base : Nat} {e : TypeId} {v : Value} {n : Nat} {vs : List Value} {out l : List (List UInt8)} (hb : w.heap.size ≤ base) (hr : w'.ownsRow base e 1 v n vs) (h : RBss (fun b => base ≤ b) w' v out) (he : l = out) (hx : Ext w w') :
  ∃ A c, Ending.returned v = .returned (.slice A l.length c) ∧ RBss (fun b => w.heap.size ≤ b) w' (.slice A l.length c) l ∧ Ext w w' := by
 subst he
 obtain ⟨A, c, rfl, _⟩ := h.form
 exact ⟨A, c, rfl, h.sub fun b hbb => Nat.le_trans hb hbb, hx⟩

set_option maxRecDepth 100000 in
set_option maxHeartbeats 1000000 in
theorem records_any (A : Option Addr) (c : Nat) (L : List (List UInt8)) (w : World) (hn : RBss S w (.slice A L.length c) L) (hL : ∀ x ∈ L, x.length = 128) (hl : L.length ≤ 4096) :
  Calls Try.prog 34 #[.slice A L.length c] w (fun e w' => ∃ A c, e = .returned (.slice A (recsOf L).length c) ∧ RBss (fun b => w.heap.size ≤ b) w' (.slice A (recsOf L).length c) (recsOf L) ∧ Ext w w') := by
 have hnc := RBss.clip hn
 have hncq := RBss.form hnc
 have hcc := (RBss.at hn).2.1
 refine calls_enter (l := [(.slice A L.length c)]) Try.func34 rfl rfl rfl (fun aA hF => ?_)
 refine wp_seq_k (fun K1 hK1 => ?_)
 refine wp_region_lit ?_
 refine qv 0 (.slice none 0 0) hF rfl (rn_assign rfl) fun _ F3 => ?_; clear hF
 refine wpList_nil ?_
 refine hK1 _ _ ?_
 clear hK1
 refine wp_seq_k (fun K4 hK4 => ?_)
 refine wp_region_lit ?_
 refine wpl_op (i := 0) rfl (o_new (fun g => (.slice (some ⟨g, 0, none⟩) 0 0)) [] 35 F3 rfl rfl rfl rfl (rn_buildSlice (parts0 ) (by kernel_rfl)) ?_)
 intro g5 w6 a11 F12 z9 z10 b7 hx8; clear F3
 refine qv 1 (.slice (some ⟨g5, 0, none⟩) 0 0) F12 rfl (rn_assign (F12.get rfl)) fun _ F14 => ?_; clear F12
 refine wpList_nil ?_
 refine hK4 _ _ ?_
 clear hK4
 refine wp_seq_k (fun K15 hK15 => ?_)
 refine wp_region_lit ?_
 refine qv 0 (.int .i64 0) F14 rfl (rn_assign rfl) fun _ F17 => ?_; clear F14
 refine wpList_nil ?_
 refine hK15 _ _ ?_
 clear hK15
 refine wp_seq_k (fun K18 hK18 => ?_)
 refine wp_region_lit ?_
 refine qv 0 (.int .u64 0) F17 rfl (rn_assign rfl) fun _ F20 => ?_; clear F17
 refine wpList_nil ?_
 refine hK18 _ _ ?_
 clear hK18
 refine wp_block ?_
 have hf21 := own_blk0 (k := 1) b7
 have rv22 := RVs.nil g5 (.slice (some ⟨g5, 0, none⟩) 0 0) w6
 refine wp_loop (fun a' W => ∃ (p : Nat) (last : Nat) (out : List (List UInt8)) (Ap : Option Addr) (np : Nat) (cp : Nat) (vs : List Value), Sl 41 [(0, (.slice A L.length c)), (2, (.slice none 0 0)), (3, (.slice Ap np cp)), (4, (.int .i64 (p : Nat))), (5, (.int .u64 (last : Nat)))] a' ∧ (p ≤ L.length ∧ np ≤ p) ∧ Rc L out p last ∧ Ext w W ∧ W.ownsRow g5 35 1 (.slice Ap np cp) np (rawVals vs) ∧ RVs g5 (.slice Ap np cp) W vs out ∧ g5 ≤ W.heap.size ∧ w6.heap.size ≤ W.heap.size) (fun a' _ => L.length - (intOf (a'.eval (.tmp 4))).toNat) ⟨0, 0, [], (some ⟨g5, 0, none⟩), 0, 0, [], (((((F20.nil.cons (q_get F20 (t := 5) rfl (by first | rfl | (congr 1; omega) | (congr 1; done)))).cons (q_get F20 (t := 4) rfl (by first | rfl | (congr 1; omega) | (congr 1; done)))).cons (q_get F20 (t := 3) rfl (by first | rfl | (congr 1; omega) | (congr 1; done)))).cons (q_get F20 (t := 2) rfl rfl)).cons (q_get F20 (t := 0) rfl rfl)), ⟨by omega, by omega⟩, Rc.start L, ((Ext.refl w).trans hx8), hf21, rv22, (by omega), (Nat.le_refl _)⟩ ?_
 clear F20
 rintro a23 w24 ⟨p, last, out, Ap, np, cp, vs, F25, hp27, hp28, hx26, r29, hf30, hf31, hf32⟩
 have hL33 := F25
 have z34 := hx26.size
 have z35 := own_form0 r29
 refine wp_block ?_
 refine wp_seq_k (fun K36 hK36 => ?_)
 refine wp_region_lit ?_
 refine qv 0 (.slice A L.length c) F25 rfl (rn_move (F25.get rfl)) fun _ F38 => ?_; clear F25
 refine qv 1 (.int .i64 (p : Nat)) F38 rfl (rn_move (F38.get rfl)) fun _ F40 => ?_; clear F38
 have d41 := (hnc.ext hx26)
 have lt46 := own_blk_lt r29
 refine wpl_op (i := 2) rfl (o_call F40 rfl rfl rfl rfl (rn_call (args2 (F40.get rfl) (F40.get rfl)) rfl (by kernel_rfl)) (record_at (v := (.slice A L.length c)) L p _ d41 hL (by omega) (by omega)) ?_)
 rintro _ w49 ⟨A42, n43, c44, rfl, hf45, hx50⟩
 have z47 := (Fl.cel hf45).2.1
 have z48 := recN_le (L := L) (p := p) (by omega)
 refine ⟨_, rfl, ?_⟩; intro a51 F52; clear F40; have z53 := hx50.size
 have hf54 : Fl (Clip (fun b => w24.heap.size ≤ b) w49) w49 1 (.slice A42 n43 c44) n43 (byteVals (recB L p)) := hf45.clip
 refine qv 3 (.tuple #[(.slice A42 n43 c44), (.int .i64 (recN L p : Nat))]) F52 rfl (rn_move (F52.get rfl)) fun _ F56 => ?_; clear F52
 refine qv 4 (.slice A42 n43 c44) F56 rfl (rn_extract (F56.get rfl) rfl) fun _ F58 => ?_; clear F56
 refine qv 5 (.int .i64 (recN L p : Nat)) F58 rfl (rn_extract (F58.get rfl) rfl) fun _ F60 => ?_; clear F58
 refine qv 6 (.slice A42 n43 c44) F60 rfl (rn_assign (F60.get rfl)) fun _ F62 => ?_; clear F60
 refine qv 7 (.int .i64 (recN L p : Nat)) F62 rfl (rn_assign (F62.get rfl)) fun _ F64 => ?_; clear F62
 refine wpList_nil ?_
 refine hK36 _ _ ?_
 clear hK36
 have F65 := (((((((F64.nil.c F64 7 rfl).c F64 6 rfl).c F64 5 rfl).c F64 4 rfl).c F64 3 rfl).c F64 2 rfl).c F64 0 rfl)
 clear F64
 refine wp_seq_k (fun K66 hK66 => ?_)
 refine wp_seq_k (fun K67 hK67 => ?_)
 refine wp_region_lit ?_
 refine qv 0 (.int .i64 (recN L p : Nat)) F65 rfl (rn_move (F65.get rfl)) fun _ F69 => ?_; clear F65
 refine qv 1 (.bool (decide (((recN L p : Nat) : Int) = (0 : Int)))) F69 rfl (rn_eql (F69.get rfl) rfl) fun _ F71 => ?_; clear F69
 refine qv 2 (.bool (decide (((recN L p : Nat) : Int) = (0 : Int)))) F71 rfl (rn_move (F71.get rfl)) fun _ F73 => ?_; clear F71
 by_cases hc74 : ((recN L p : Nat) : Int) = (0 : Int)
 ·skip
  refine qu 3 F73 (decide_eq_true hc74) fun _ F76 => ?_; clear F73
  refine qu 4 F76 (decide_eq_true hc74) fun _ F78 => ?_; clear F76
  refine qu 5 F78 (decide_eq_true hc74) fun _ F80 => ?_; clear F78
  refine qu 6 F80 (decide_eq_true hc74) fun _ F82 => ?_; clear F80
  refine qu 7 F82 (decide_eq_true hc74) fun _ F84 => ?_; clear F82
  refine qu 8 F84 (decide_eq_true hc74) fun _ F86 => ?_; clear F84
  refine qu 9 F86 (decide_eq_true hc74) fun _ F88 => ?_; clear F86
  refine qu 10 F88 (decide_eq_true hc74) fun _ F90 => ?_; clear F88
  refine qv 11 (.bool true) F90 rfl (rn_pickT (c_true F90 rfl (decide_eq_true hc74)) rfl) fun _ F92 => ?_; clear F90
  refine wpList_nil ?_
  refine hK67 _ _ ?_
  clear hK67
  have F93 := ((((((((F92.nil.c F92 26 rfl).c F92 7 rfl).c F92 6 rfl).c F92 5 rfl).c F92 4 rfl).c F92 3 rfl).c F92 2 rfl).c F92 0 rfl)
  clear F92
  refine wp_cond_true (c_true F93 rfl rfl) ?_
  refine wp_seq_k (fun K94 hK94 => ?_)
  refine wp_region_lit ?_
  refine qv 0 (.slice Ap np cp) F93 rfl (rn_move (F93.get rfl)) fun _ F96 => ?_; clear F93
  refine qv 1 (.slice Ap np cp) F96 rfl (rn_assign (F96.get rfl)) fun _ F98 => ?_; clear F96
  refine wpList_nil ?_
  refine hK94 _ _ ?_
  clear hK94
  refine wp_ret ?_
  refine ret_then ?_
  refine ret_block ?_
  refine ret_then ?_
  refine ret_block ?_
  refine ret1 F98 rfl rfl ?_
  have r99 := (own_ext r29 hx50)
  have hrow := r99
  have hbs := RVs.bss (RVs.ext hf30 hx50) hrow
  have he := Rc.none hp28 (recN_zero (by omega))
  have hx := (((Ext.refl w).trans hx26).trans hx50)
  exact recs_fin (by omega) hrow hbs he hx
 ·skip
  refine qg 3 (.slice A L.length c) F73 (decide_eq_false hc74) (rn_move (F73.get rfl)) fun _ F101 => ?_; clear F73
  refine qg 4 (.int .i64 (p : Nat)) F101 (decide_eq_false hc74) (rn_move (F101.get rfl)) fun _ F103 => ?_; clear F101
  have d117 := ((hnc.ext hx26).ext hx50)
  obtain ⟨x104, hi105, hm106⟩ := nth_of_lt L p (by omega)
  obtain ⟨b107, o108, A109, c110, hA111, hl112, hc113, hr114, le115, le116⟩ := RBss.get d117 hi105
  have z118 : x104.length = 128 := hL x104 (List.mem_of_getElem? hi105)
  have z119 := mod8 (x104.getD 10 0); have z120 := and1_fact (x104.getD 10 0); have z121 := and2_fact (x104.getD 10 0); have z122 := UInt8.toNat_lt (x104.getD 10 0)
  refine qg 5 (.pointer (some ⟨b107, o108 + p, none⟩)) F103 (decide_eq_false hc74) (rn_index1 Try.underlying22 inf35 ((F103.get rfl).trans (by rw [hA111])) (F103.get rfl) (by omega : (0 : Int) ≤ (p : Nat)) (by omega : ((p : Nat) : Int) < ((L.length : Nat) : Int))) fun _ F124 => ?_; clear F103
  refine qg 6 (.slice A109 x104.length c110) F124 (decide_eq_false hc74) (rn_load (isAgg_no Try.underlying35 rfl) (F124.get rfl) (Ext.keep (Ext.refl w49) hc113)) fun _ F126 => ?_; clear F124
  refine qg 7 (.slice A109 4 c110) F126 (decide_eq_false hc74) (rn_sliceHi Try.underlying35 inf5 (F126.get rfl) rfl (by omega : (0 : Int) ≤ 4) (by omega : (4 : Int) ≤ ((c110 : Nat) : Int))) fun _ F128 => ?_; clear F126
  have hf129 := (Fl.take_eq (j := 4) (RBs.fl hr114) (by omega) (byteVals_take1 _ _))
  have z130 := num_lt4 (l := x104.take 4) (by have := Fl.blen hf129; omega)
  refine wpl_op (i := 8) rfl (o_call F128 rfl (wanted_guard rfl rfl rfl F128 rfl (decide_eq_false hc74) rfl) rfl rfl (rn_call (args1 (F128.get rfl)) rfl (by kernel_rfl)) (number_at (v := (.slice A109 4 c110)) (m := 4) (x104.take 4) _ hf129 (by omega)) ?_)
  rintro _ w131 ⟨rfl, hx132⟩
  refine ⟨_, rfl, ?_⟩; intro a133 F134; clear F128; have z135 := hx132.size
  refine qg 9 (.int .u64 (last : Nat)) F134 (decide_eq_false hc74) (rn_move (F134.get rfl)) fun _ F137 => ?_; clear F134
  refine qg 10 (.bool (decide (((num (x104.take 4) : Nat) : Int) < ((last : Nat) : Int)))) F137 (decide_eq_false hc74) (rn_lss (F137.get rfl) (F137.get rfl)) fun _ F139 => ?_; clear F137
  refine qv 11 (.bool (decide (((num (x104.take 4) : Nat) : Int) < ((last : Nat) : Int)))) F139 rfl (rn_pickF (c_false F139 rfl (decide_eq_false hc74)) (F139.get rfl)) fun _ F141 => ?_; clear F139
  refine wpList_nil ?_
  refine hK67 _ _ ?_
  clear hK67
  have F142 := ((((((((F141.nil.c F141 26 rfl).c F141 7 rfl).c F141 6 rfl).c F141 5 rfl).c F141 4 rfl).c F141 3 rfl).c F141 2 rfl).c F141 0 rfl)
  clear F141
  by_cases hc143 : ((num (x104.take 4) : Nat) : Int) < ((last : Nat) : Int)
  ·skip
   refine wp_cond_true (c_true F142 rfl (decide_eq_true hc143)) ?_
   refine wp_seq_k (fun K144 hK144 => ?_)
   refine wp_region_lit ?_
   refine qv 0 (.slice Ap np cp) F142 rfl (rn_move (F142.get rfl)) fun _ F146 => ?_; clear F142
   refine qv 1 (.slice Ap np cp) F146 rfl (rn_assign (F146.get rfl)) fun _ F148 => ?_; clear F146
   refine wpList_nil ?_
   refine hK144 _ _ ?_
   clear hK144
   refine wp_ret ?_
   refine ret_then ?_
   refine ret_block ?_
   refine ret_then ?_
   refine ret_block ?_
   refine ret1 F148 rfl rfl ?_
   have r149 := (own_ext (own_ext r29 hx50) hx132)
   have hrow := r149
   have hbs := RVs.bss (RVs.ext (RVs.ext hf30 hx50) hx132) hrow
   have he := Rc.old hp28 hi105 (by show num (x104.take 4) < last; omega)
   have hx := ((((Ext.refl w).trans hx26).trans hx50).trans hx132)
   exact recs_fin (by omega) hrow hbs he hx
  ·skip
   refine wp_cond_false (c_false F142 rfl (decide_eq_false hc143)) ?_
   refine wp_skip ?_
   refine hK66 _ _ ?_
   clear hK66
   refine wp_seq_k (fun K150 hK150 => ?_)
   refine wp_region_lit ?_
   refine qv 0 (.slice A L.length c) F142 rfl (rn_move (F142.get rfl)) fun _ F152 => ?_; clear F142
   refine qv 1 (.int .i64 (p : Nat)) F152 rfl (rn_move (F152.get rfl)) fun _ F154 => ?_; clear F152
   have d168 := (((hnc.ext hx26).ext hx50).ext hx132)
   obtain ⟨b158, o159, A160, c161, hA162, hl163, hc164, hr165, le166, le167⟩ := RBss.get d168 hi105
   refine qv 2 (.pointer (some ⟨b158, o159 + p, none⟩)) F154 rfl (rn_index1 Try.underlying22 inf35 ((F154.get rfl).trans (by rw [hA162])) (F154.get rfl) (by omega : (0 : Int) ≤ (p : Nat)) (by omega : ((p : Nat) : Int) < ((L.length : Nat) : Int))) fun _ F170 => ?_; clear F154
   refine qv 3 (.slice A160 x104.length c161) F170 rfl (rn_load (isAgg_no Try.underlying35 rfl) (F170.get rfl) (Ext.keep (Ext.refl w131) hc164)) fun _ F172 => ?_; clear F170
   refine qv 4 (.slice A160 4 c161) F172 rfl (rn_sliceHi Try.underlying35 inf5 (F172.get rfl) rfl (by omega : (0 : Int) ≤ 4) (by omega : (4 : Int) ≤ ((c161 : Nat) : Int))) fun _ F174 => ?_; clear F172
   have hf175 := (Fl.take_eq (j := 4) (RBs.fl hr165) (by omega) (byteVals_take1 _ _))
   have z176 := num_lt4 (l := x104.take 4) (by have := Fl.blen hf175; omega)
   refine wpl_op (i := 5) rfl (o_call F174 rfl rfl rfl rfl (rn_call (args1 (F174.get rfl)) rfl (by kernel_rfl)) (number_at (v := (.slice A160 4 c161)) (m := 4) (x104.take 4) _ hf175 (by omega)) ?_)
   rintro _ w177 ⟨rfl, hx178⟩
   refine ⟨_, rfl, ?_⟩; intro a179 F180; clear F174; have z181 := hx178.size
   refine qv 6 (.int .u64 (num (x104.take 4) : Nat)) F180 rfl (rn_assign (F180.get rfl)) fun _ F183 => ?_; clear F180
   refine wpList_nil ?_
   refine hK150 _ _ ?_
   clear hK150
   have F184 := ((((((((F183.nil.c F183 26 rfl).c F183 7 rfl).c F183 6 rfl).c F183 5 rfl).c F183 4 rfl).c F183 3 rfl).c F183 2 rfl).c F183 0 rfl)
   clear F183
   refine wp_seq_k (fun K185 hK185 => ?_)
   refine wp_region_lit ?_
   refine qv 0 (.slice Ap np cp) F184 rfl (rn_move (F184.get rfl)) fun _ F187 => ?_; clear F184
   refine qv 1 (.slice A42 n43 c44) F187 rfl (rn_move (F187.get rfl)) fun _ F189 => ?_; clear F187
   have r190 := (own_ext (own_ext (own_ext r29 hx50) hx132) hx178)
   have hf191 := r190
   refine wpl_op (i := 2) rfl (o_new (fun g => (.slice (some ⟨g, 0, none⟩) 1 1)) [(.slice A42 n43 c44)] 35 F189 rfl rfl rfl rfl (rn_buildSlice (parts1 (F189.get rfl)) (by kernel_rfl)) ?_)
   intro g192 w193 a198 F199 z196 z197 b194 hx195; clear F189
   have nb200 := own_new (g := g192) hf191 (by omega)
   have rv201 := (RVs.ext (RVs.ext (RVs.ext (RVs.ext hf30 hx50) hx132) hx178) hx195)
   have d202 := (((hf54.ext hx132).ext hx178).ext hx195)
   have hf203 := Fl.rbs d202
   have r204 := (own_ext r190 hx195)
   have hf213 := r204
   have nb214 : some g192 ≠ (Value.slice Ap np cp).ownBlock := nb200
   have z215 := b194.lt
   refine wpl_op (i := 3) rfl (o_appB (zs := rawVals (vs ++ ([(.slice A42 n43 c44)]))) El22 F199 rfl rfl rfl rfl rfl (F199.get rfl) (F199.get rfl) hf213 (Fl.cel (Fl.blk (S := fun b => b = g192) (k := 1) (n := 1) (c := 1) (cs := rawVals [(.slice A42 n43 c44)]) b194 rfl (one_slices (by simp)) (by omega) rfl)).2.2 (by omega) (by omega) (by omega) (rawVals_app _ _) ?_)
   intro A205 c206 w207 a216 F217 r208 hg209 z210 z211 hnb212; clear F199; have z218 := hg209.size
   have nb219 := hnb212 g192 (by omega) nb214
   have rv220 := RVs.app (v' := (.slice A205 (np + 1) c206)) (RVs.snoc rv201 hf203 (fun b hlt hb => ⟨by simp only [Clip] at hb; omega, fun e => by have := lt46 b e; simp only [Clip] at hb; omega⟩)) hg209 hnb212
   refine qv 4 (.slice A205 (np + 1) c206) F217 rfl (rn_assign (F217.get rfl)) fun _ F222 => ?_; clear F217
   refine wpList_nil ?_
   refine hK185 _ _ ?_
   clear hK185
   have F223 := ((((((((F222.nil.c F222 26 rfl).c F222 7 rfl).c F222 6 rfl).c F222 5 rfl).c F222 4 rfl).c F222 3 rfl).c F222 2 rfl).c F222 0 rfl)
   clear F222
   refine wp_region_lit ?_
   refine qv 0 (.int .i64 (p : Nat)) F223 rfl (rn_move (F223.get rfl)) fun _ F225 => ?_; clear F223
   refine qv 1 (.int .i64 (recN L p : Nat)) F225 rfl (rn_move (F225.get rfl)) fun _ F227 => ?_; clear F225
   refine qv 2 (.int .i64 (p + (recN L p) : Nat)) F227 rfl (rn_addN (a := p) (b := recN L p) (F227.get rfl) (F227.get rfl) (by omega)) fun _ F229 => ?_; clear F227
   refine qv 3 (.int .i64 (p + (recN L p) : Nat)) F229 rfl (rn_assign (F229.get rfl)) fun _ F231 => ?_; clear F229
   refine wpList_nil ?_
   refine ⟨⟨p + (recN L p), num (x104.take 4), out ++ [recB L p], A205, np + 1, c206, vs ++ ([(.slice A42 n43 c44)]), (((((F231.nil.cons (q_get F231 (t := 5) rfl (by first | rfl | (congr 1; omega) | (congr 1; done)))).cons (q_get F231 (t := 4) rfl (by first | rfl | (congr 1; omega) | (congr 1; done)))).cons (q_get F231 (t := 3) rfl (by first | rfl | (congr 1; omega) | (congr 1; done)))).cons (q_get F231 (t := 2) rfl rfl)).cons (q_get F231 (t := 0) rfl rfl)), ⟨by omega, by omega⟩, (Rc.next hp28 hi105 (recN_pos (by omega)) (by show ¬ num (x104.take 4) < last; omega)), (ext_row ((((((Ext.refl w).trans hx26).trans hx50).trans hx132).trans hx178).trans hx195) hg209 hf213 (by omega)), r208, rv220, (by omega), (by omega)⟩, ?_⟩
   rw [F231.get (t := 4) rfl, hL33.get (t := 4) rfl]; simp [intOf] <;> omega

theorem records_at {v : Value} (L : List (List UInt8)) (w : World) (hn : RBss S w v L) (hL : ∀ x ∈ L, x.length = 128) (hl : L.length ≤ 4096) :
  Calls Try.prog 34 #[v] w (fun e w' => ∃ A c, e = .returned (.slice A (recsOf L).length c) ∧ RBss (fun b => w.heap.size ≤ b) w' (.slice A (recsOf L).length c) (recsOf L) ∧ Ext w w') := by
 obtain ⟨A, c, rfl, _⟩ := hn.form
 exact records_any A c L w hn hL hl

set_option maxRecDepth 100000 in
set_option maxHeartbeats 1000000 in
theorem generation_any (A : Option Addr) (c : Nat) (L : List (List UInt8)) (w : World) (hn : RBss S w (.slice A L.length c) L) (hL : ∀ x ∈ L, x.length = 128) :
  Calls Try.prog 45 #[.slice A L.length c] w (fun e w' => e = .returned (.int .u64 (maxG L + 1 : Nat)) ∧ Ext w w') := by
 have hnc := RBss.clip hn
 have hncq := RBss.form hnc
 have hcc := (RBss.at hn).2.1
 refine calls_enter (l := [(.slice A L.length c)]) Try.func45 rfl rfl rfl (fun aA hF => ?_)
 refine wp_seq_k (fun K1 hK1 => ?_)
 refine wp_region_lit ?_
 refine qv 0 (.int .u64 0) hF rfl (rn_assign rfl) fun _ F3 => ?_; clear hF
 refine wpList_nil ?_
 refine hK1 _ _ ?_
 clear hK1
 refine wp_seq_k (fun K4 hK4 => ?_)
 refine wp_region_lit ?_
 refine qv 0 (.int .u64 0) F3 rfl (rn_assign rfl) fun _ F6 => ?_; clear F3
 refine wpList_nil ?_
 refine hK4 _ _ ?_
 clear hK4
 refine wp_seq_k (fun K7 hK7 => ?_)
 refine wp_seq_k (fun K8 hK8 => ?_)
 refine wp_region_lit ?_
 refine qv 0 (.int .i64 0) F6 rfl (rn_assign rfl) fun _ F10 => ?_; clear F6
 refine wpList_nil ?_
 refine hK8 _ _ ?_
 clear hK8
 refine wp_block ?_
 refine wp_loop (fun a' W => ∃ (k : Nat) (m : Nat), Sl 27 [(0, (.slice A L.length c)), (2, (.int .u64 0)), (3, (.int .u64 (m : Nat))), (4, (.int .i64 (k : Nat)))] a' ∧ k ≤ L.length ∧ m = maxG (L.take k) ∧ Ext w W ∧ w.heap.size ≤ W.heap.size) (fun a' _ => L.length - (intOf (a'.eval (.tmp 4))).toNat) ⟨0, 0, ((((F10.nil.cons (q_get F10 (t := 4) rfl (by first | rfl | (congr 1; omega) | (congr 1; done)))).cons (q_get F10 (t := 3) rfl (by first | rfl | (congr 1; omega) | (congr 1; done)))).cons (q_get F10 (t := 2) rfl rfl)).cons (q_get F10 (t := 0) rfl rfl)), (by omega), rfl, (Ext.refl w), (Nat.le_refl _)⟩ ?_
 clear F10
 rintro a11 w12 ⟨k, m, F13, hp15, hp16, hx14, hf17⟩
 have hL18 := F13
 have z19 := hx14.size
 have hm : m < 4294967296 := by rw [hp16]; exact maxG_lt fun x hx => hL x (List.mem_of_mem_take hx)
 refine wp_seq_k (fun K20 hK20 => ?_)
 refine wp_seq_k (fun K21 hK21 => ?_)
 refine wp_region_lit ?_
 refine qv 0 (.int .i64 (k : Nat)) F13 rfl (rn_move (F13.get rfl)) fun _ F23 => ?_; clear F13
 refine qv 1 (.slice A L.length c) F23 rfl (rn_move (F23.get rfl)) fun _ F25 => ?_; clear F23
 refine qv 2 (.int .i64 (L.length : Nat)) F25 rfl (rn_len_slice Try.underlying22 (F25.get rfl)) fun _ F27 => ?_; clear F25
 refine qv 3 (.bool (decide (((k : Nat) : Int) < ((L.length : Nat) : Int)))) F27 rfl (rn_lss (F27.get rfl) (F27.get rfl)) fun _ F29 => ?_; clear F27
 refine wpList_nil ?_
 refine hK21 _ _ ?_
 clear hK21
 by_cases hc30 : ((k : Nat) : Int) < ((L.length : Nat) : Int)
 ·skip
  refine wp_cond_true (c_true F29 rfl (decide_eq_true hc30)) ?_
  refine wp_skip ?_
  refine hK20 _ _ ?_
  clear hK20
  refine wp_seq_k (fun K31 hK31 => ?_)
  refine wp_block ?_
  have hx33 : ∃ W, w12.drew = W ∧ Ext w12 W := ⟨_, rfl, (Ext.refl _).drew⟩
  obtain ⟨w32, e34, hx33⟩ := hx33
  have z35 := hx33.size
  refine any_start (fun W => Ext w32 W) (fun i => false) 15 #[false, false, false, false, false, false, false, false, false, false, false, false, false, false, false] rfl rfl rfl ?_
  rw [e34]; clear e34
  refine qp 0 (.int .u64 (m : Nat)) F29 rfl rfl (fun W => (rn_move (F29.get rfl))) fun _ F37 => ?_; clear F29
  refine qp 1 (.slice A L.length c) F37 rfl rfl (fun W => (rn_move (F37.get rfl))) fun _ F39 => ?_; clear F37
  refine qp 2 (.int .i64 (k : Nat)) F39 rfl rfl (fun W => (rn_move (F39.get rfl))) fun _ F41 => ?_; clear F39
  have d55 := ((hnc.ext hx14).ext hx33)
  obtain ⟨x42, hi43, hm44⟩ := nth_of_lt L k (by omega)
  obtain ⟨b45, o46, A47, c48, hA49, hl50, hc51, hr52, le53, le54⟩ := RBss.get d55 hi43
  have z56 : x42.length = 128 := hL x42 (List.mem_of_getElem? hi43)
  have z57 := mod8 (x42.getD 10 0); have z58 := and1_fact (x42.getD 10 0); have z59 := and2_fact (x42.getD 10 0); have z60 := UInt8.toNat_lt (x42.getD 10 0)
  refine qp 3 (.pointer (some ⟨b45, o46 + k, none⟩)) F41 rfl rfl (fun W => (rn_index1 Try.underlying22 inf35 ((F41.get rfl).trans (by rw [hA49])) (F41.get rfl) (by omega : (0 : Int) ≤ (k : Nat)) (by omega : ((k : Nat) : Int) < ((L.length : Nat) : Int)))) fun _ F62 => ?_; clear F41
  have hS63 : Ext w32 w32 := (Ext.refl w32)
  refine qs 4 (.slice A47 x42.length c48) F62 rfl rfl hS63 (fun W hW => (rn_load (isAgg_no Try.underlying35 rfl) (F62.get rfl) (Ext.keep ((Ext.refl w32).trans hW) hc51))) fun _ F65 => ?_; clear F62
  refine qp 5 (.slice A47 4 c48) F65 rfl rfl (fun W => (rn_sliceHi Try.underlying35 inf5 (F65.get rfl) rfl (by omega : (0 : Int) ≤ 4) (by omega : (4 : Int) ≤ ((c48 : Nat) : Int)))) fun _ F67 => ?_; clear F65
  refine qp 7 (.slice A L.length c) F67 rfl rfl (fun W => (rn_move (F67.get rfl))) fun _ F69 => ?_; clear F67
  refine qp 8 (.int .i64 (k : Nat)) F69 rfl rfl (fun W => (rn_move (F69.get rfl))) fun _ F71 => ?_; clear F69
  refine qp 9 (.pointer (some ⟨b45, o46 + k, none⟩)) F71 rfl rfl (fun W => (rn_index1 Try.underlying22 inf35 ((F71.get rfl).trans (by rw [hA49])) (F71.get rfl) (by omega : (0 : Int) ≤ (k : Nat)) (by omega : ((k : Nat) : Int) < ((L.length : Nat) : Int)))) fun _ F73 => ?_; clear F71
  refine qs 10 (.slice A47 x42.length c48) F73 rfl rfl hS63 (fun W hW => (rn_load (isAgg_no Try.underlying35 rfl) (F73.get rfl) (Ext.keep ((Ext.refl w32).trans hW) hc51))) fun _ F75 => ?_; clear F73
  obtain ⟨b76, o77, hA78, -⟩ := Fl.at (RBs.fl hr52) (by omega)
  refine qp 11 (.slice (some ⟨b76, o77 + 124 * 1, none⟩) (x42.length - 124) (c48 - 124)) F75 rfl rfl (fun W => (rn_sliceLo (l := 124) Try.underlying35 inf5 ((F75.get rfl).trans (by rw [hA78])) rfl (by omega : 124 ≤ x42.length) (by omega : 124 < c48))) fun _ F80 => ?_; clear F75
  refine any_one (i := 6) (by decide +kernel) rfl ?_
  have hf81 := (Fl.take_eq (j := 4) (RBs.fl hr52) (by omega) (byteVals_take1 _ _))
  have z82 := num_lt4 (l := x42.take 4) (by have := Fl.blen hf81; omega)
  refine o_call F80 rfl rfl rfl rfl (rn_call (args1 (F80.get rfl)) rfl (by kernel_rfl)) (number_at (v := (.slice A47 4 c48)) (m := 4) (x42.take 4) _ hf81 (by omega)) ?_
  rintro _ w83 ⟨rfl, hx84⟩
  refine ⟨_, rfl, ?_⟩; intro a85 F86; clear F80; have z87 := hx84.size
  refine ⟨fun _ _ => ((Ext.refl w32).trans hx84), ?_⟩
  refine any_one (i := 12) (by decide +kernel) rfl ?_
  have d88 := ((RBs.fl hr52).ext hx84)
  have hf89 := (Fl.drop_eq (j := 124) d88 hA78 (by omega) (byteVals_drop1 _ _))
  have z90 := num_lt4 (l := x42.drop 124) (by have := Fl.blen hf89; omega)
  refine o_call F86 rfl rfl rfl rfl (rn_call (args1 (F86.get rfl)) rfl (by kernel_rfl)) (number_at (v := (.slice (some ⟨b76, o77 + 124 * 1, none⟩) (x42.length - 124) (c48 - 124))) (m := x42.length - 124) (x42.drop 124) _ hf89 (by omega)) ?_
  rintro _ w91 ⟨rfl, hx92⟩
  refine ⟨_, rfl, ?_⟩; intro a93 F94; clear F86; have z95 := hx92.size
  refine ⟨fun _ _ => (((Ext.refl w32).trans hx84).trans hx92), ?_⟩
  refine qp 13 (.int .u64 (max (max m (num (x42.take 4))) (num (x42.drop 124)) : Nat)) F94 rfl rfl (fun W => (rn_max3U Try.underlying68 (F94.get rfl) (F94.get rfl) (F94.get rfl))) fun _ F97 => ?_; clear F94
  refine qp 14 (.int .u64 (max (max m (num (x42.take 4))) (num (x42.drop 124)) : Nat)) F97 rfl rfl (fun W => (rn_assign (F97.get rfl))) fun _ F99 => ?_; clear F97
  refine any_nil (by decide +kernel) ?_
  refine hK31 _ _ ?_
  clear hK31
  have F100 := (((((F99.nil.c F99 8 rfl).c F99 4 rfl).c F99 3 rfl).c F99 2 rfl).c F99 0 rfl)
  clear F99
  refine wp_region_lit ?_
  refine qv 0 (.int .i64 (k : Nat)) F100 rfl (rn_move (F100.get rfl)) fun _ F102 => ?_; clear F100
  refine qv 1 (.int .i64 (k + 1 : Nat)) F102 rfl (rn_addN (a := k) (b := 1) (F102.get rfl) rfl (by omega)) fun _ F104 => ?_; clear F102
  refine qv 2 (.int .i64 (k + 1 : Nat)) F104 rfl (rn_assign (F104.get rfl)) fun _ F106 => ?_; clear F104
  refine wpList_nil ?_
  refine ⟨⟨(k + 1), max (max m (num (x42.take 4))) (num (x42.drop 124)), ((((F106.nil.cons (q_get F106 (t := 4) rfl (by first | rfl | (congr 1; omega) | (congr 1; done)))).cons (q_get F106 (t := 3) rfl (by first | rfl | (congr 1; omega) | (congr 1; done)))).cons (q_get F106 (t := 2) rfl rfl)).cons (q_get F106 (t := 0) rfl rfl)), (by omega), (by rw [maxG_take hi43, hp16]; rfl), (((((Ext.refl w).trans hx14).trans hx33).trans hx84).trans hx92), (by omega)⟩, ?_⟩
  rw [F106.get (t := 4) rfl, hL18.get (t := 4) rfl]; simp [intOf] <;> omega
 ·skip
  refine wp_cond_false (c_false F29 rfl (decide_eq_false hc30)) ?_
  refine wp_exit ?_
  refine exit_then ?_
  refine exit_then ?_
  refine exit_here ?_
  refine hK7 _ _ ?_
  clear hK7
  refine wp_seq_k (fun K107 hK107 => ?_)
  refine wp_region_lit ?_
  refine qv 0 (.int .u64 (m : Nat)) F29 rfl (rn_move (F29.get rfl)) fun _ F109 => ?_; clear F29
  refine qv 1 (.int .u64 (m + 1 : Nat)) F109 rfl (rn_addU (a := m) (b := 1) (F109.get rfl) rfl (by omega)) fun _ F111 => ?_; clear F109
  refine qv 2 (.int .u64 (m + 1 : Nat)) F111 rfl (rn_assign (F111.get rfl)) fun _ F113 => ?_; clear F111
  refine wpList_nil ?_
  refine hK107 _ _ ?_
  clear hK107
  have F114 := (((((F113.nil.c F113 8 rfl).c F113 4 rfl).c F113 3 rfl).c F113 2 rfl).c F113 0 rfl)
  clear F113
  refine wp_ret ?_
  refine ret1 F114 rfl rfl ?_
  have hk : k = L.length := by omega
  have hm2 := hp16
  rw [hk, List.take_length] at hm2
  exact ⟨by rw [← hm2], ((Ext.refl w).trans hx14)⟩

theorem generation_at {v : Value} (L : List (List UInt8)) (w : World) (hn : RBss S w v L) (hL : ∀ x ∈ L, x.length = 128) :
  Calls Try.prog 45 #[v] w (fun e w' => e = .returned (.int .u64 (maxG L + 1 : Nat)) ∧ Ext w w') := by
 obtain ⟨A, c, rfl, _⟩ := hn.form
 exact generation_any A c L w hn hL

end Go.Proofs.Ytfmhnplkpohogaa
