/- Several texts in one: JrM, JrQ, JrN, JrX, JrS. -/
import Derived.Test.YtfmhnplkpohogaaProg
import Derived.Test.YtfmhnplkpohogaaBvgE
import Derived.Test.YtfmhnplkpohogaaBvgB
import Derived.KernelRfl
import Derived.Test.YtfmhnplkpohogaaBvgA
import Derived.Test.YtfmhnplkpohogaaBvgD
import Derived.Test.YtfmhnplkpohogaaBvgC
set_option linter.unusedVariables false
set_option linter.unusedSimpArgs false
namespace Go.Proofs.Ytfmhnplkpohogaa
open Go.RowKit

variable {S S' : Nat → Prop}

/-- what the iterator needs of a world: the box of the list, and the list -/
def RecH (S : Nat → Prop) (A : Option Addr) (c : Nat) (L : List (List UInt8)) (gB : Nat) (W : World) : Prop := Blk W gB 22 [.slice A L.length c] ∧ RBss S W (.slice A L.length c) L
/-- what it hands out: a number, and bytes of its own -/
def RecG (B : Nat) (x : List UInt8) (args : Array Value) (W : World) : Prop := ∃ (k : Nat) (A : Option Addr) (n c base : Nat), args = #[.int .i64 (k : Nat), .slice A n c] ∧ W.ownsRow base 5 1 (.slice A n c) n (byteVals x) ∧ B ≤ base

set_option maxRecDepth 100000 in
set_option maxHeartbeats 1000000 in
theorem recsfn_any (A : Option Addr) (n c : Nat) (w : World) :
  Calls Try.prog 32 #[.slice A n c] w (fun e w' => ∃ g, w.heap.size ≤ g ∧ e = .returned (.func (.func 60) #[] #[.pointer (some ⟨g, 0, none⟩)]) ∧ Blk w' g 22 [.slice A n c] ∧ Ext w w') := by
 refine calls_enter (l := [(.slice A n c)]) Try.func32 rfl rfl rfl (fun aA hF => ?_)
 refine wp_seq_k (fun K1 hK1 => ?_)
 refine wp_region_lit ?_
 refine wpl_op (i := 0) rfl (o_new (fun g => (.pointer (some ⟨g, 0, none⟩))) [(.slice A n c)] 22 hF rfl rfl rfl rfl (rn_box (hF.get rfl) (by kernel_rfl)) ?_)
 intro g2 w3 a8 F9 z6 z7 b4 hx5; clear hF
 refine qv 1 (.nilFunc) F9 rfl (rn_assign rfl) fun _ F11 => ?_; clear F9
 refine wpList_nil ?_
 refine hK1 _ _ ?_
 clear hK1
 refine wp_seq_k (fun K12 hK12 => ?_)
 refine wp_region_lit ?_
 refine qv 0 (.func (.func 60) #[] #[(.pointer (some ⟨g2, 0, none⟩))]) F11 rfl (rn_makeFunc (args0 ) (args1 (F11.get rfl))) fun _ F14 => ?_; clear F11
 refine qv 1 (.func (.func 60) #[] #[(.pointer (some ⟨g2, 0, none⟩))]) F14 rfl (rn_assign (F14.get rfl)) fun _ F16 => ?_; clear F14
 refine wpList_nil ?_
 refine hK12 _ _ ?_
 clear hK12
 refine wp_ret ?_
 refine ret1 F16 rfl rfl ?_
 exact ⟨g2, by omega, rfl, b4, ((Ext.refl w).trans hx5)⟩

set_option maxRecDepth 100000 in
set_option maxHeartbeats 1000000 in
theorem records1_iter (A : Option Addr) (c : Nat) (L : List (List UInt8)) (gB B : Nat) (hL : ∀ x ∈ L, x.length = 128) (hl : L.length ≤ 4096) : Iter Try.prog 60 #[.pointer (some ⟨gB, 0, none⟩)] B (RecH S A c L gB) (RecG B) (recsOf L) := by
 intro l J w hJE hJH hY h0
 show Calls Try.prog _ #[.func (.yield l) #[] #[], .pointer (some ⟨gB, 0, none⟩)] w _
 refine calls_enter (l := [(.func (.yield l) #[] #[]), (.pointer (some ⟨gB, 0, none⟩))]) Try.func60 rfl rfl rfl (fun aA hF => ?_)
 refine wp_scope_straight ?_
 refine wp_seq_k (fun K1 hK1 => ?_)
 refine wp_region_lit ?_
 refine qv 0 (.int .i64 0) hF rfl (rn_assign rfl) fun _ F3 => ?_; clear hF
 refine qv 1 (.int .u64 0) F3 rfl (rn_assign rfl) fun _ F5 => ?_; clear F3
 refine wpList_nil ?_
 refine hK1 _ _ ?_
 clear hK1
 refine wp_seq_k (fun K6 hK6 => ?_)
 refine wp_label ?_
 refine hK6 _ _ ?_
 clear hK6
 refine wp_block ?_
 refine wp_loop (fun a' W => ∃ (p : Nat) (last : Nat) (out : List (List UInt8)), Sl 77 [(0, (.func (.yield l) #[] #[])), (1, (.pointer (some ⟨gB, 0, none⟩))), (3, (.int .i64 (p : Nat))), (4, (.int .u64 (last : Nat)))] a' ∧ p ≤ L.length ∧ Rc L out p last ∧ True ∧ J out W) (fun a' _ => L.length - (intOf (a'.eval (.tmp 3))).toNat) ⟨0, 0, [], ((((F5.nil.cons (q_get F5 (t := 4) rfl (by first | rfl | (congr 1; omega) | (congr 1; done)))).cons (q_get F5 (t := 3) rfl (by first | rfl | (congr 1; omega) | (congr 1; done)))).cons (q_get F5 (t := 1) rfl rfl)).cons (q_get F5 (t := 0) rfl rfl)), (by omega), Rc.start L, trivial, h0⟩ ?_
 clear F5
 rintro a7 w8 ⟨p, last, out, F9, hp11, hp12, hx10, hf13⟩
 have hL14 := F9
 obtain ⟨⟨hBk, hNk⟩, hBs⟩ := hJH _ _ hf13
 have hlt := hBk.lt
 have hcc := (RBss.at hNk).2.1
 have hNc := RBss.clip hNk
 refine wp_block ?_
 refine wp_seq_k (fun K15 hK15 => ?_)
 refine wp_region_lit ?_
 refine qv 0 (.slice none 0 0) F9 rfl (rn_assign rfl) fun _ F17 => ?_; clear F9
 refine wpList_nil ?_
 refine hK15 _ _ ?_
 clear hK15
 refine wp_seq_k (fun K18 hK18 => ?_)
 refine wp_seq_k (fun K19 hK19 => ?_)
 refine wp_region_lit ?_
 refine qv 0 (.int .i64 (p : Nat)) F17 rfl (rn_move (F17.get rfl)) fun _ F21 => ?_; clear F17
 refine qv 1 (.int .i64 (p : Nat)) F21 rfl (rn_assign (F21.get rfl)) fun _ F23 => ?_; clear F21
 refine wpList_nil ?_
 refine hK19 _ _ ?_
 clear hK19
 refine wp_block ?_
 refine wp_loop (fun a' W => ∃ (n : Nat) (Ar : Option Addr) (nr : Nat) (cr : Nat) (b : List UInt8), Sl 77 [(0, (.func (.yield l) #[] #[])), (1, (.pointer (some ⟨gB, 0, none⟩))), (3, (.int .i64 (p : Nat))), (4, (.int .u64 (last : Nat))), (5, (.slice Ar nr cr)), (6, (.int .i64 (p + n : Nat)))] a' ∧ (p + n ≤ L.length ∧ nr ≤ 112 * n) ∧ Rd L p n b ∧ Ext w8 W ∧ Blk W gB 22 [(.slice A L.length c)] ∧ W.ownsRow w8.heap.size 5 1 (.slice Ar nr cr) nr (byteVals b) ∧ w8.heap.size ≤ W.heap.size ∧ w8.heap.size ≤ W.heap.size) (fun a' _ => L.length - (intOf (a'.eval (.tmp 6))).toNat) ⟨0, none, 0, 0, [], ((((((F23.nil.cons (q_get F23 (t := 6) rfl (by first | rfl | (congr 1; omega) | (congr 1; done)))).cons (q_get F23 (t := 5) rfl (by first | rfl | (congr 1; omega) | (congr 1; done)))).cons (q_get F23 (t := 4) rfl rfl)).cons (q_get F23 (t := 3) rfl rfl)).cons (q_get F23 (t := 1) rfl rfl)).cons (q_get F23 (t := 0) rfl rfl)), ⟨by omega, by omega⟩, Rd.start L p, (Ext.refl w8), hBk, (own_nil w8 w8.heap.size 5 1), (by omega), (Nat.le_refl _)⟩ ?_
 clear F23
 rintro a24 w25 ⟨n, Ar, nr, cr, b, F26, hp28, hp29, hx27, b30, r31, hf32, hf33⟩
 have hL34 := F26
 have z35 := hx27.size
 have z36 := b30.lt
 have z37 := own_form0 r31
 refine wp_seq_k (fun K38 hK38 => ?_)
 refine wp_seq_k (fun K39 hK39 => ?_)
 refine wp_region_lit ?_
 refine qv 0 (.int .i64 (p + n : Nat)) F26 rfl (rn_move (F26.get rfl)) fun _ F41 => ?_; clear F26
 refine qv 1 (.slice A L.length c) F41 rfl (rn_load (isAgg_no Try.underlying22 rfl) (F41.get rfl) (b30.rule.1 0)) fun _ F43 => ?_; clear F41
 refine qv 2 (.int .i64 (L.length : Nat)) F43 rfl (rn_len_slice Try.underlying22 (F43.get rfl)) fun _ F45 => ?_; clear F43
 refine qv 3 (.bool (decide (((p + n : Nat) : Int) < ((L.length : Nat) : Int)))) F45 rfl (rn_lss (F45.get rfl) (F45.get rfl)) fun _ F47 => ?_; clear F45
 refine wpList_nil ?_
 refine hK39 _ _ ?_
 clear hK39
 by_cases hc48 : ((p + n : Nat) : Int) < ((L.length : Nat) : Int)
 ·skip
  refine wp_cond_true (c_true F47 rfl (decide_eq_true hc48)) ?_
  refine wp_skip ?_
  refine hK38 _ _ ?_
  clear hK38
  refine wp_seq_k (fun K49 hK49 => ?_)
  refine wp_block ?_
  refine wp_seq_k (fun K50 hK50 => ?_)
  refine wp_region_lit ?_
  refine qv 0 (.slice A L.length c) F47 rfl (rn_load (isAgg_no Try.underlying22 rfl) (F47.get rfl) (b30.rule.1 0)) fun _ F52 => ?_; clear F47
  refine qv 1 (.int .i64 (p + n : Nat)) F52 rfl (rn_move (F52.get rfl)) fun _ F54 => ?_; clear F52
  have d68 := (hNc.ext hx27)
  obtain ⟨x55, hi56, hm57⟩ := nth_of_lt L (p + n) (by omega)
  obtain ⟨b58, o59, A60, c61, hA62, hl63, hc64, hr65, le66, le67⟩ := RBss.get d68 hi56
  have z69 : x55.length = 128 := hL x55 (List.mem_of_getElem? hi56)
  have z70 := mod8 (x55.getD 10 0); have z71 := and1_fact (x55.getD 10 0); have z72 := and2_fact (x55.getD 10 0); have z73 := UInt8.toNat_lt (x55.getD 10 0)
  refine qv 2 (.pointer (some ⟨b58, o59 + (p + n), none⟩)) F54 rfl (rn_index1 Try.underlying22 inf35 ((F54.get rfl).trans (by rw [hA62])) (F54.get rfl) (by omega : (0 : Int) ≤ (p + n : Nat)) (by omega : ((p + n : Nat) : Int) < ((L.length : Nat) : Int))) fun _ F75 => ?_; clear F54
  refine qv 3 (.slice A60 x55.length c61) F75 rfl (rn_load (isAgg_no Try.underlying35 rfl) (F75.get rfl) (Ext.keep (Ext.refl w25) hc64)) fun _ F77 => ?_; clear F75
  refine qv 4 (.slice A60 x55.length c61) F77 rfl (rn_assign (F77.get rfl)) fun _ F79 => ?_; clear F77
  refine wpList_nil ?_
  refine hK50 _ _ ?_
  clear hK50
  have F80 := ((((((((F79.nil.c F79 7 rfl).c F79 12 rfl).c F79 6 rfl).c F79 5 rfl).c F79 4 rfl).c F79 3 rfl).c F79 1 rfl).c F79 0 rfl)
  clear F79
  refine wp_seq_k (fun K81 hK81 => ?_)
  refine wp_seq_k (fun K82 hK82 => ?_)
  have hx84 : ∃ W, w25.drew = W ∧ Ext w25 W := ⟨_, rfl, (Ext.refl _).drew⟩
  obtain ⟨w83, e85, hx84⟩ := hx84
  have z86 := hx84.size
  refine any_start (fun W => Ext w83 W ∧ Blk W gB 22 [(.slice A L.length c)]) (fun i => false) 34 #[false, false, false, false, false, false, false, false, false, false, false, false, false, false, false, false, false, false, false, false, false, false, false, false, false, false, false, false, false, false, false, false, false, false] rfl rfl rfl ?_
  rw [e85]; clear e85
  refine qp 0 (.slice A60 x55.length c61) F80 rfl rfl (fun W => (rn_move (F80.get rfl))) fun _ F88 => ?_; clear F80
  refine qp 1 (.int .i64 (p + n : Nat)) F88 rfl rfl (fun W => (rn_move (F88.get rfl))) fun _ F90 => ?_; clear F88
  refine any_one (i := 2) (by decide +kernel) rfl ?_
  have d91 := ((RBs.fl hr65).ext hx84)
  have hf92 := d91
  refine o_call F90 rfl rfl rfl rfl (rn_call (args2 (F90.get rfl) (F90.get rfl)) rfl (by kernel_rfl)) (good_at (v := (.slice A60 x55.length c61)) (m := x55.length) x55 (p + n) _ hf92 (by omega) (by omega)) ?_
  rintro _ w93 ⟨rfl, hx94⟩
  refine ⟨_, rfl, ?_⟩; intro a95 F96; clear F90; have z97 := hx94.size
  have b98 := ((b30.ext hx84).ext hx94)
  refine ⟨fun _ _ => ⟨((Ext.refl w83).trans hx94), b98⟩, ?_⟩
  refine qp 3 (.bool (!(goodS x55 (p + n)))) F96 rfl rfl (fun W => (rn_not' (F96.get rfl) rfl)) fun _ F100 => ?_; clear F96
  refine qp 4 (.bool (!(goodS x55 (p + n)))) F100 rfl rfl (fun W => (rn_move (F100.get rfl))) fun _ F102 => ?_; clear F100
  rcases Bool.eq_false_or_eq_true (goodS x55 (p + n)) with hc103 | hc103
  ·skip
   have z104 := good_kind hc103
   refine qp 5 (.slice A60 x55.length c61) F102 rfl (wanted_guard rfl rfl rfl F102 rfl (not_t hc103) rfl) (fun W => (rn_move (F102.get rfl))) fun _ F106 => ?_; clear F102
   obtain ⟨b107, o108, hA109, -⟩ := Fl.at d91 (by omega)
   refine qp 6 (.pointer (some ⟨b107, o108 + 10, none⟩)) F106 rfl (wanted_guard rfl rfl rfl F106 rfl (not_t hc103) rfl) (fun W => (rn_index1 Try.underlying35 inf5 ((F106.get rfl).trans (by rw [hA109])) rfl (by omega : (0 : Int) ≤ 10) (by omega : (10 : Int) < ((x55.length : Nat) : Int)))) fun _ F111 => ?_; clear F106
   have hS112 : Ext w83 w93 ∧ Blk w93 gB 22 [(.slice A L.length c)] := ⟨((Ext.refl w83).trans hx94), b98⟩
   refine qs 7 (.int .u8 ((x55.getD 10 0).toNat : Nat)) F111 rfl (wanted_guard rfl rfl rfl F111 rfl (not_t hc103) rfl) hS112 (fun W hW => (rn_load (isAgg_no Try.underlying5 rfl) (F111.get rfl) (Fl.cellAt (d91.ext hW.1) hA109 (byteVals_at (i := 10) (by omega))))) fun _ F114 => ?_; clear F111
   refine qp 8 (.int .u8 (((x55.getD 10 0) &&& (1 : UInt8)).toNat : Nat)) F114 rfl (wanted_guard rfl rfl rfl F114 rfl (not_t hc103) rfl) (fun W => (rn_and8 (a := (x55.getD 10 0)) (b := (1 : UInt8)) (F114.get rfl) rfl)) fun _ F116 => ?_; clear F114
   refine qp 9 (.bool (decide (((((x55.getD 10 0) &&& (1 : UInt8)).toNat : Nat) : Int) ≠ (0 : Int)))) F116 rfl (wanted_guard rfl rfl rfl F116 rfl (not_t hc103) rfl) (fun W => (rn_neq (F116.get rfl) rfl)) fun _ F118 => ?_; clear F116
   refine qp 10 (.int .i64 (p + n : Nat)) F118 rfl (wanted_guard rfl rfl rfl F118 rfl (not_t hc103) rfl) (fun W => (rn_move (F118.get rfl))) fun _ F120 => ?_; clear F118
   refine qp 11 (.int .i64 (p : Nat)) F120 rfl (wanted_guard rfl rfl rfl F120 rfl (not_t hc103) rfl) (fun W => (rn_move (F120.get rfl))) fun _ F122 => ?_; clear F120
   refine qp 12 (.bool (decide (((p + n : Nat) : Int) = ((p : Nat) : Int)))) F122 rfl (wanted_guard rfl rfl rfl F122 rfl (not_t hc103) rfl) (fun W => (rn_eql (F122.get rfl) (F122.get rfl))) fun _ F124 => ?_; clear F122
   by_cases hc125 : ((((x55.getD 10 0) &&& (1 : UInt8)).toNat : Nat) : Int) ≠ (0 : Int)
   ·skip
    by_cases hc126 : ((p + n : Nat) : Int) = ((p : Nat) : Int)
    ·skip
     refine qp 13 (.bool false) F124 rfl (wanted_guard rfl rfl rfl F124 rfl (not_t hc103) rfl) (fun W => (rn_neB Try.underlying4 (F124.get rfl) (F124.get rfl) (show _ = true from (decide_eq_true hc125)) (show _ = true from (decide_eq_true hc126)) rfl)) fun _ F128 => ?_; clear F124
     refine qp 14 (.bool false) F128 rfl rfl (fun W => (rn_pickF (c_false F128 rfl (not_t hc103)) (F128.get rfl))) fun _ F130 => ?_; clear F128
     refine qp 15 (.bool false) F130 rfl rfl (fun W => (rn_move (F130.get rfl))) fun _ F132 => ?_; clear F130
     refine qp 16 (.slice A60 x55.length c61) F132 rfl (wanted_guard rfl rfl rfl F132 rfl rfl rfl) (fun W => (rn_move (F132.get rfl))) fun _ F134 => ?_; clear F132
     refine qp 17 (.slice A60 4 c61) F134 rfl (wanted_guard rfl rfl rfl F134 rfl rfl rfl) (fun W => (rn_sliceHi Try.underlying35 inf5 (F134.get rfl) rfl (by omega : (0 : Int) ≤ 4) (by omega : (4 : Int) ≤ ((c61 : Nat) : Int)))) fun _ F136 => ?_; clear F134
     refine qs 19 (.slice A L.length c) F136 rfl (wanted_guard rfl rfl rfl F136 rfl rfl rfl) hS112 (fun W hW => (rn_load (isAgg_no Try.underlying22 rfl) (F136.get rfl) (hW.2.rule.1 0))) fun _ F138 => ?_; clear F136
     refine qp 20 (.int .i64 (p : Nat)) F138 rfl (wanted_guard rfl rfl rfl F138 rfl rfl rfl) (fun W => (rn_move (F138.get rfl))) fun _ F140 => ?_; clear F138
     have d154 := ((hNc.ext hx27).ext hx84)
     obtain ⟨x141, hi142, hm143⟩ := nth_of_lt L p (by omega)
     obtain ⟨b144, o145, A146, c147, hA148, hl149, hc150, hr151, le152, le153⟩ := RBss.get d154 hi142
     have z155 : x141.length = 128 := hL x141 (List.mem_of_getElem? hi142)
     have z156 := mod8 (x141.getD 10 0); have z157 := and1_fact (x141.getD 10 0); have z158 := and2_fact (x141.getD 10 0); have z159 := UInt8.toNat_lt (x141.getD 10 0)
     refine qp 21 (.pointer (some ⟨b144, o145 + p, none⟩)) F140 rfl (wanted_guard rfl rfl rfl F140 rfl rfl rfl) (fun W => (rn_index1 Try.underlying22 inf35 ((F140.get rfl).trans (by rw [hA148])) (F140.get rfl) (by omega : (0 : Int) ≤ (p : Nat)) (by omega : ((p : Nat) : Int) < ((L.length : Nat) : Int)))) fun _ F161 => ?_; clear F140
     refine qs 22 (.slice A146 x141.length c147) F161 rfl (wanted_guard rfl rfl rfl F161 rfl rfl rfl) hS112 (fun W hW => (rn_load (isAgg_no Try.underlying35 rfl) (F161.get rfl) (Ext.keep ((Ext.refl w83).trans hW.1) hc150))) fun _ F163 => ?_; clear F161
     refine qp 23 (.slice A146 4 c147) F163 rfl (wanted_guard rfl rfl rfl F163 rfl rfl rfl) (fun W => (rn_sliceHi Try.underlying35 inf5 (F163.get rfl) rfl (by omega : (0 : Int) ≤ 4) (by omega : (4 : Int) ≤ ((c147 : Nat) : Int)))) fun _ F165 => ?_; clear F163
     refine any_one (i := 18) (by decide +kernel) rfl ?_
     have d166 := (((RBs.fl hr65).ext hx84).ext hx94)
     have hf167 := (Fl.take_eq (j := 4) d166 (by omega) (byteVals_take1 _ _))
     have z168 := num_lt4 (l := x55.take 4) (by have := Fl.blen hf167; omega)
     refine o_call F165 rfl (wanted_guard rfl rfl rfl F165 rfl rfl rfl) rfl rfl (rn_call (args1 (F165.get rfl)) rfl (by kernel_rfl)) (get_at (v := (.slice A60 4 c61)) (m := 4) (x55.take 4) _ hf167 (by omega)) ?_
     rintro _ w169 ⟨rfl, hx170⟩
     refine ⟨_, rfl, ?_⟩; intro a171 F172; clear F165; have z173 := hx170.size
     have b174 := (b98.ext hx170)
     refine ⟨fun _ _ => ⟨(((Ext.refl w83).trans hx94).trans hx170), b174⟩, ?_⟩
     refine any_one (i := 24) (by decide +kernel) rfl ?_
     have d175 := (((RBs.fl hr151).ext hx94).ext hx170)
     have hf176 := (Fl.take_eq (j := 4) d175 (by omega) (byteVals_take1 _ _))
     have z177 := num_lt4 (l := x141.take 4) (by have := Fl.blen hf176; omega)
     refine o_call F172 rfl (wanted_guard rfl rfl rfl F172 rfl rfl rfl) rfl rfl (rn_call (args1 (F172.get rfl)) rfl (by kernel_rfl)) (get_at (v := (.slice A146 4 c147)) (m := 4) (x141.take 4) _ hf176 (by omega)) ?_
     rintro _ w178 ⟨rfl, hx179⟩
     refine ⟨_, rfl, ?_⟩; intro a180 F181; clear F172; have z182 := hx179.size
     have b183 := (b174.ext hx179)
     refine ⟨fun _ _ => ⟨((((Ext.refl w83).trans hx94).trans hx170).trans hx179), b183⟩, ?_⟩
     refine qp 25 (.bool (decide (((num (x55.take 4) : Nat) : Int) ≠ ((num (x141.take 4) : Nat) : Int)))) F181 rfl (wanted_guard rfl rfl rfl F181 rfl rfl rfl) (fun W => (rn_neq (F181.get rfl) (F181.get rfl))) fun _ F185 => ?_; clear F181
     refine qp 26 (.bool (decide (((num (x55.take 4) : Nat) : Int) ≠ ((num (x141.take 4) : Nat) : Int)))) F185 rfl rfl (fun W => (rn_pickF (c_false F185 rfl rfl) (F185.get rfl))) fun _ F187 => ?_; clear F185
     refine qp 27 (.bool (decide (((num (x55.take 4) : Nat) : Int) ≠ ((num (x141.take 4) : Nat) : Int)))) F187 rfl rfl (fun W => (rn_move (F187.get rfl))) fun _ F189 => ?_; clear F187
     by_cases hc190 : ((num (x55.take 4) : Nat) : Int) ≠ ((num (x141.take 4) : Nat) : Int)
     ·skip
      refine qk 28 F189 rfl (decide_eq_true hc190) fun _ F192 => ?_; clear F189
      refine qk 29 F192 rfl (decide_eq_true hc190) fun _ F194 => ?_; clear F192
      refine qk 31 F194 rfl (decide_eq_true hc190) fun _ F196 => ?_; clear F194
      refine any_one (i := 30) (by decide +kernel) rfl ?_
      refine o_skip F196 rfl (unwanted_guard rfl rfl rfl F196 rfl (decide_eq_true hc190) rfl) rfl rfl ?_
      intro a197 F198; clear F196
      refine ⟨fun _ _ => ⟨((((Ext.refl w83).trans hx94).trans hx170).trans hx179), b183⟩, ?_⟩
      refine qk 32 F198 rfl (decide_eq_true hc190) fun _ F200 => ?_; clear F198
      refine qp 33 (.bool true) F200 rfl rfl (fun W => (rn_pickT (c_true F200 rfl (decide_eq_true hc190)) rfl)) fun _ F202 => ?_; clear F200
      refine any_nil (by decide +kernel) ?_
      refine hK82 _ _ ?_
      clear hK82
      have F203 := (((((((((F202.nil.c F202 52 rfl).c F202 7 rfl).c F202 12 rfl).c F202 6 rfl).c F202 5 rfl).c F202 4 rfl).c F202 3 rfl).c F202 1 rfl).c F202 0 rfl)
      clear F202
      refine wp_cond_true (c_true F203 rfl rfl) ?_
      refine wp_ret ?_
      refine ret_then ?_
      refine ret_block ?_
      refine ret_then ?_
      refine ret_then ?_
      refine ret_block ?_
      refine ret_then ?_
      refine ret_block ?_
      refine ret_then ?_
      refine ret_block ?_
      refine scope_ret ?_
      refine ret0r F203 rfl ?_
      have hf204 := hJE _ _ _ hf13 ((((((Ext.refl w8).trans hx27).trans hx84).trans hx94).trans hx170).trans hx179)
      have he := Rc.none hp12 (Rd.bad hp29 hi56 (fun h => by have h2 : num (x55.take 4) = num (x141.take 4) := h.2.2.trans (gen_at hi142); omega))
      exact ⟨⟨_, rfl⟩, he ▸ hf204⟩
     ·skip
      refine qp 28 (.slice A60 x55.length c61) F189 rfl (wanted_guard rfl rfl rfl F189 rfl (decide_eq_false hc190) rfl) (fun W => (rn_move (F189.get rfl))) fun _ F206 => ?_; clear F189
      refine qp 29 (.slice A60 4 c61) F206 rfl (wanted_guard rfl rfl rfl F206 rfl (decide_eq_false hc190) rfl) (fun W => (rn_sliceHi Try.underlying35 inf5 (F206.get rfl) rfl (by omega : (0 : Int) ≤ 4) (by omega : (4 : Int) ≤ ((c61 : Nat) : Int)))) fun _ F208 => ?_; clear F206
      refine qp 31 (.int .u64 (last : Nat)) F208 rfl (wanted_guard rfl rfl rfl F208 rfl (decide_eq_false hc190) rfl) (fun W => (rn_move (F208.get rfl))) fun _ F210 => ?_; clear F208
      refine any_one (i := 30) (by decide +kernel) rfl ?_
      have d211 := (((((RBs.fl hr65).ext hx84).ext hx94).ext hx170).ext hx179)
      have hf212 := (Fl.take_eq (j := 4) d211 (by omega) (byteVals_take1 _ _))
      have z213 := num_lt4 (l := x55.take 4) (by have := Fl.blen hf212; omega)
      refine o_call F210 rfl (wanted_guard rfl rfl rfl F210 rfl (decide_eq_false hc190) rfl) rfl rfl (rn_call (args1 (F210.get rfl)) rfl (by kernel_rfl)) (get_at (v := (.slice A60 4 c61)) (m := 4) (x55.take 4) _ hf212 (by omega)) ?_
      rintro _ w214 ⟨rfl, hx215⟩
      refine ⟨_, rfl, ?_⟩; intro a216 F217; clear F210; have z218 := hx215.size
      have b219 := (b183.ext hx215)
      refine ⟨fun _ _ => ⟨(((((Ext.refl w83).trans hx94).trans hx170).trans hx179).trans hx215), b219⟩, ?_⟩
      refine qp 32 (.bool (decide (((num (x55.take 4) : Nat) : Int) < ((last : Nat) : Int)))) F217 rfl (wanted_guard rfl rfl rfl F217 rfl (decide_eq_false hc190) rfl) (fun W => (rn_lss (F217.get rfl) (F217.get rfl))) fun _ F221 => ?_; clear F217
      refine qp 33 (.bool (decide (((num (x55.take 4) : Nat) : Int) < ((last : Nat) : Int)))) F221 rfl rfl (fun W => (rn_pickF (c_false F221 rfl (decide_eq_false hc190)) (F221.get rfl))) fun _ F223 => ?_; clear F221
      refine any_nil (by decide +kernel) ?_
      refine hK82 _ _ ?_
      clear hK82
      have F224 := (((((((((F223.nil.c F223 52 rfl).c F223 7 rfl).c F223 12 rfl).c F223 6 rfl).c F223 5 rfl).c F223 4 rfl).c F223 3 rfl).c F223 1 rfl).c F223 0 rfl)
      clear F223
      by_cases hc225 : ((num (x55.take 4) : Nat) : Int) < ((last : Nat) : Int)
      ·skip
       refine wp_cond_true (c_true F224 rfl (decide_eq_true hc225)) ?_
       refine wp_ret ?_
       refine ret_then ?_
       refine ret_block ?_
       refine ret_then ?_
       refine ret_then ?_
       refine ret_block ?_
       refine ret_then ?_
       refine ret_block ?_
       refine ret_then ?_
       refine ret_block ?_
       refine scope_ret ?_
       refine ret0r F224 rfl ?_
       have hf226 := hJE _ _ _ hf13 (((((((Ext.refl w8).trans hx27).trans hx84).trans hx94).trans hx170).trans hx179).trans hx215)
       have he := Rc.old hp12 hi142 (by show num (x141.take 4) < last; omega)
       exact ⟨⟨_, rfl⟩, he ▸ hf226⟩
      ·skip
       refine wp_cond_false (c_false F224 rfl (decide_eq_false hc225)) ?_
       refine wp_skip ?_
       refine hK81 _ _ ?_
       clear hK81
       refine wp_seq_k (fun K227 hK227 => ?_)
       refine wp_region_lit ?_
       refine qv 0 (.slice Ar nr cr) F224 rfl (rn_move (F224.get rfl)) fun _ F229 => ?_; clear F224
       refine qv 1 (.slice A60 x55.length c61) F229 rfl (rn_move (F229.get rfl)) fun _ F231 => ?_; clear F229
       refine qv 2 (.slice A60 x55.length c61) F231 rfl (rn_move (F231.get rfl)) fun _ F233 => ?_; clear F231
       refine qv 3 (.pointer (some ⟨b107, o108 + 11, none⟩)) F233 rfl (rn_index1 Try.underlying35 inf5 ((F233.get rfl).trans (by rw [hA109])) rfl (by omega : (0 : Int) ≤ 11) (by omega : (11 : Int) < ((x55.length : Nat) : Int))) fun _ F235 => ?_; clear F233
       have d236 := ((((((RBs.fl hr65).ext hx84).ext hx94).ext hx170).ext hx179).ext hx215)
       refine qv 4 (.int .u8 ((x55.getD 11 0).toNat : Nat)) F235 rfl (rn_load (isAgg_no Try.underlying5 rfl) (F235.get rfl) (Fl.cellAt d236 hA109 (byteVals_at (i := 11) (by omega)))) fun _ F238 => ?_; clear F235
       have z239 := UInt8.toNat_lt (x55.getD 11 0)
       refine qv 5 (.int .i64 ((x55.getD 11 0).toNat : Nat)) F238 rfl (rn_convW Try.underlying5 Try.underlying3 (F238.get rfl) (cv8_64 (x55.getD 11 0))) fun _ F241 => ?_; clear F238
       refine qv 6 (.int .i64 (12 + ((x55.getD 11 0).toNat) : Nat)) F241 rfl (rn_addN (a := 12) (b := (x55.getD 11 0).toNat) rfl (F241.get rfl) (by omega)) fun _ F243 => ?_; clear F241
       refine qv 7 (.slice (some ⟨b107, o108 + 12 * 1, none⟩) ((x55.getD 11 0).toNat) (c61 - 12)) F243 rfl (rn_sliceLH (l := 12) (h := (12 + ((x55.getD 11 0).toNat))) Try.underlying35 inf5 ((F243.get rfl).trans (by rw [hA109])) rfl (F243.get rfl) (by omega) (by omega) (by omega) (by omega)) fun _ F245 => ?_; clear F243
       have r246 := (own_ext (own_ext (own_ext (own_ext (own_ext r31 hx84) hx94) hx170) hx179) hx215)
       have hf255 := r246
       refine wpl_op (i := 8) rfl (o_appB (zs := byteVals (b ++ ((x55.drop 12).take ((x55.getD 11 0).toNat)))) El35 F245 rfl rfl rfl rfl rfl (F245.get rfl) (F245.get rfl) hf255 (Fl.cel (Fl.mid_eq (j := 12) (m' := (x55.getD 11 0).toNat) d236 hA109 (by omega) (by omega) (byteVals_mid _ _ _))).2.2 (by omega) (by omega) (by omega) (byteVals_app _ _) ?_)
       intro A247 c248 w249 a256 F257 r250 hg251 z252 z253 hnb254; clear F245; have z258 := hg251.size
       refine qv 9 (.slice A247 (nr + ((x55.getD 11 0).toNat)) c248) F257 rfl (rn_assign (F257.get rfl)) fun _ F260 => ?_; clear F257
       refine wpList_nil ?_
       refine hK227 _ _ ?_
       clear hK227
       have F261 := (((((((((F260.nil.c F260 52 rfl).c F260 7 rfl).c F260 12 rfl).c F260 6 rfl).c F260 5 rfl).c F260 4 rfl).c F260 3 rfl).c F260 1 rfl).c F260 0 rfl)
       clear F260
       refine wp_seq_k (fun K262 hK262 => ?_)
       refine wp_region_lit ?_
       refine qv 0 (.slice A60 x55.length c61) F261 rfl (rn_move (F261.get rfl)) fun _ F264 => ?_; clear F261
       refine qv 1 (.pointer (some ⟨b107, o108 + 10, none⟩)) F264 rfl (rn_index1 Try.underlying35 inf5 ((F264.get rfl).trans (by rw [hA109])) rfl (by omega : (0 : Int) ≤ 10) (by omega : (10 : Int) < ((x55.length : Nat) : Int))) fun _ F266 => ?_; clear F264
       have d267 := ((RBs.fl hr65).pres (Pres.row ((((((Pres.refl w25).ext hx84).ext hx94).ext hx170).ext hx179).ext hx215) hg251 hf255 (fun b hb h => by simp only [Clip] at h; omega)))
       refine qv 2 (.int .u8 ((x55.getD 10 0).toNat : Nat)) F266 rfl (rn_load (isAgg_no Try.underlying5 rfl) (F266.get rfl) (Fl.cellAt d267 hA109 (byteVals_at (i := 10) (by omega)))) fun _ F269 => ?_; clear F266
       refine qv 3 (.int .u8 (((x55.getD 10 0) &&& (2 : UInt8)).toNat : Nat)) F269 rfl (rn_and8 (a := (x55.getD 10 0)) (b := (2 : UInt8)) (F269.get rfl) rfl) fun _ F271 => ?_; clear F269
       refine qv 4 (.bool (decide (((((x55.getD 10 0) &&& (2 : UInt8)).toNat : Nat) : Int) ≠ (0 : Int)))) F271 rfl (rn_neq (F271.get rfl) rfl) fun _ F273 => ?_; clear F271
       refine wpList_nil ?_
       refine hK262 _ _ ?_
       clear hK262
       have F274 := ((((((((((F273.nil.c F273 66 rfl).c F273 52 rfl).c F273 7 rfl).c F273 12 rfl).c F273 6 rfl).c F273 5 rfl).c F273 4 rfl).c F273 3 rfl).c F273 1 rfl).c F273 0 rfl)
       clear F273
       by_cases hc275 : ((((x55.getD 10 0) &&& (2 : UInt8)).toNat : Nat) : Int) ≠ (0 : Int)
       ·skip
        refine wp_cond_true (c_true F274 rfl (decide_eq_true hc275)) ?_
        refine wp_seq_k (fun K276 hK276 => ?_)
        refine wp_region_lit ?_
        refine qv 0 (.int .i64 (p + n : Nat)) F274 rfl (rn_move (F274.get rfl)) fun _ F278 => ?_; clear F274
        refine qv 1 (.int .i64 ((p + n) + 1 : Nat)) F278 rfl (rn_addN (a := p + n) (b := 1) (F278.get rfl) rfl (by omega)) fun _ F280 => ?_; clear F278
        refine qv 2 (.slice A60 x55.length c61) F280 rfl (rn_move (F280.get rfl)) fun _ F282 => ?_; clear F280
        refine qv 3 (.slice A60 4 c61) F282 rfl (rn_sliceHi Try.underlying35 inf5 (F282.get rfl) rfl (by omega : (0 : Int) ≤ 4) (by omega : (4 : Int) ≤ ((c61 : Nat) : Int))) fun _ F284 => ?_; clear F282
        have hf285 := (Fl.take_eq (j := 4) d267 (by omega) (byteVals_take1 _ _))
        have z286 := num_lt4 (l := x55.take 4) (by have := Fl.blen hf285; omega)
        refine wpl_op (i := 4) rfl (o_call F284 rfl rfl rfl rfl (rn_call (args1 (F284.get rfl)) rfl (by kernel_rfl)) (get_at (v := (.slice A60 4 c61)) (m := 4) (x55.take 4) _ hf285 (by omega)) ?_)
        rintro _ w287 ⟨rfl, hx288⟩
        refine ⟨_, rfl, ?_⟩; intro a289 F290; clear F284; have z291 := hx288.size
        refine qv 5 (.int .i64 ((p + n) + 1 : Nat)) F290 rfl (rn_assign (F290.get rfl)) fun _ F293 => ?_; clear F290
        refine qv 6 (.int .u64 (num (x55.take 4) : Nat)) F293 rfl (rn_assign (F293.get rfl)) fun _ F295 => ?_; clear F293
        refine wpList_nil ?_
        refine hK276 _ _ ?_
        clear hK276
        have F296 := ((((((((((F295.nil.c F295 66 rfl).c F295 52 rfl).c F295 7 rfl).c F295 12 rfl).c F295 6 rfl).c F295 5 rfl).c F295 4 rfl).c F295 3 rfl).c F295 1 rfl).c F295 0 rfl)
        clear F295
        refine wp_seq_k (fun K297 hK297 => ?_)
        refine wp_seq_k (fun K298 hK298 => ?_)
        refine (wpIn_wide (n := 10)).1 (wpIn_region_lit ?_)
        refine wide_val (v := (.func (.yield l) #[] #[])) F296 rfl rfl rfl (rn_move (F296.get rfl)) ?_
        intro a299 F300; clear F296
        refine wide_val (v := (.int .i64 ((p + n) + 1 : Nat))) F300 rfl rfl rfl (rn_move (F300.get rfl)) ?_
        intro a301 F302; clear F300
        refine wide_val (v := (.slice A247 (nr + ((x55.getD 11 0).toNat)) c248)) F302 rfl rfl rfl (rn_move (F302.get rfl)) ?_
        intro a303 F304; clear F302
        have r305 := (own_ext r250 hx288)
        have hf306 := r305
        have hf307 := hJE _ _ _ hf13 ((ext_row (((((((Ext.refl w8).trans hx27).trans hx84).trans hx94).trans hx170).trans hx179).trans hx215) hg251 hf255 (by omega)).trans hx288)
        have hge : gen x55 = gen (L.getD p []) := by rw [gen_at hi142]; show num (x55.take 4) = num (x141.take 4); omega
        have hok : RdOk L p n x55 := ⟨hc103, by show (x55.getD 10 0).toNat % 2 = 1 ↔ n = 0; omega, hge⟩
        have hpre := Rc.next hp12 hi142 (Rd.fin hp29 hi56 hok (by show 2 ≤ (x55.getD 10 0).toNat; omega)) (by show ¬ num (x141.take 4) < last; omega)
        refine wide_yield F304 rfl rfl rfl (rn_yield (F304.get rfl) (args2 (F304.get rfl) (F304.get rfl))) (hY _ _ _ _ hf307 ⟨_, _, _, _, _, rfl, hf306, by omega⟩ ⟨_, hpre.trans (List.append_assoc _ _ _)⟩) ?_
        rintro _ w309 ⟨rfl, hJ308⟩; refine ⟨_, rfl, ?_⟩; intro a310 F311; clear F304
        refine wide_val (v := .bool false) F311 rfl rfl rfl (rn_not' (F311.get rfl) rfl) ?_
        intro a312 F313; clear F311
        refine wpListIn_nil ?_
        refine hK298 _ _ ?_
        clear hK298
        have F314 := (((((((((((F313.nil.c F313 76 rfl).c F313 66 rfl).c F313 52 rfl).c F313 7 rfl).c F313 12 rfl).c F313 6 rfl).c F313 5 rfl).c F313 4 rfl).c F313 3 rfl).c F313 1 rfl).c F313 0 rfl)
        clear F313
        refine wp_cond_false (c_false F314 rfl rfl) ?_
        refine wp_skip ?_
        refine hK297 _ _ ?_
        clear hK297
        refine wp_exit ?_
        refine exit_past (by decide) ?_
        refine exit_then ?_
        refine exit_then ?_
        refine exit_past (by decide) ?_
        refine exit_then ?_
        refine exit_here ?_
        have hrc := Rc.next hp12 hi142 (Rd.fin hp29 hi56 hok (by show 2 ≤ (x55.getD 10 0).toNat; omega)) (by show ¬ num (x141.take 4) < last; omega)
        rw [show gen x141 = num (x55.take 4) by rw [← gen_at hi142]; exact hge.symm] at hrc
        refine ⟨⟨(p + n) + 1, num (x55.take 4), out ++ [b ++ ((x55.drop 12).take ((x55.getD 11 0).toNat))], ((((F314.nil.cons (q_get F314 (t := 4) rfl (by first | rfl | (congr 1; omega) | (congr 1; done)))).cons (q_get F314 (t := 3) rfl (by first | rfl | (congr 1; omega) | (congr 1; done)))).cons (q_get F314 (t := 1) rfl rfl)).cons (q_get F314 (t := 0) rfl rfl)), (by omega), hrc, trivial, hJ308⟩, ?_⟩
        rw [F314.get (t := 3) rfl, hL14.get (t := 3) rfl]; simp [intOf] <;> omega
       ·skip
        refine wp_cond_false (c_false F274 rfl (decide_eq_false hc275)) ?_
        refine wp_skip ?_
        refine hK49 _ _ ?_
        clear hK49
        refine wp_region_lit ?_
        refine qv 0 (.int .i64 (p + n : Nat)) F274 rfl (rn_move (F274.get rfl)) fun _ F316 => ?_; clear F274
        refine qv 1 (.int .i64 ((p + n) + 1 : Nat)) F316 rfl (rn_addN (a := p + n) (b := 1) (F316.get rfl) rfl (by omega)) fun _ F318 => ?_; clear F316
        refine qv 2 (.int .i64 ((p + n) + 1 : Nat)) F318 rfl (rn_assign (F318.get rfl)) fun _ F320 => ?_; clear F318
        refine wpList_nil ?_
        have hge : gen x55 = gen (L.getD p []) := by rw [gen_at hi142]; show num (x55.take 4) = num (x141.take 4); omega
        have hok : RdOk L p n x55 := ⟨hc103, by show (x55.getD 10 0).toNat % 2 = 1 ↔ n = 0; omega, hge⟩
        have b321 := (grown_blk hf255 hg251 b219 (by decide))
        refine ⟨⟨(n + 1), A247, nr + ((x55.getD 11 0).toNat), c248, b ++ ((x55.drop 12).take ((x55.getD 11 0).toNat)), ((((((F320.nil.cons (q_get F320 (t := 6) rfl (by first | rfl | (congr 1; omega) | (congr 1; done)))).cons (q_get F320 (t := 5) rfl (by first | rfl | (congr 1; omega) | (congr 1; done)))).cons (q_get F320 (t := 4) rfl rfl)).cons (q_get F320 (t := 3) rfl rfl)).cons (q_get F320 (t := 1) rfl rfl)).cons (q_get F320 (t := 0) rfl rfl)), ⟨by omega, by omega⟩, (Rd.next hp29 hi56 hok (by show ¬ 2 ≤ (x55.getD 10 0).toNat; omega)), (ext_row (((((((Ext.refl w8).trans hx27).trans hx84).trans hx94).trans hx170).trans hx179).trans hx215) hg251 hf255 (by omega)), b321, r250, (by omega), (by omega)⟩, ?_⟩
        rw [F320.get (t := 6) rfl, hL34.get (t := 6) rfl]; simp [intOf] <;> omega
    ·skip
     refine qp 13 (.bool true) F124 rfl (wanted_guard rfl rfl rfl F124 rfl (not_t hc103) rfl) (fun W => (rn_neB Try.underlying4 (F124.get rfl) (F124.get rfl) (show _ = true from (decide_eq_true hc125)) (show _ = false from (decide_eq_false hc126)) rfl)) fun _ F323 => ?_; clear F124
     refine qp 14 (.bool true) F323 rfl rfl (fun W => (rn_pickF (c_false F323 rfl (not_t hc103)) (F323.get rfl))) fun _ F325 => ?_; clear F323
     refine qp 15 (.bool true) F325 rfl rfl (fun W => (rn_move (F325.get rfl))) fun _ F327 => ?_; clear F325
     refine qk 16 F327 rfl rfl fun _ F329 => ?_; clear F327
     refine qk 17 F329 rfl rfl fun _ F331 => ?_; clear F329
     refine qk 19 F331 rfl rfl fun _ F333 => ?_; clear F331
     refine qk 20 F333 rfl rfl fun _ F335 => ?_; clear F333
     refine qk 21 F335 rfl rfl fun _ F337 => ?_; clear F335
     refine qk 22 F337 rfl rfl fun _ F339 => ?_; clear F337
     refine qk 23 F339 rfl rfl fun _ F341 => ?_; clear F339
     refine any_one (i := 18) (by decide +kernel) rfl ?_
     refine o_skip F341 rfl (unwanted_guard rfl rfl rfl F341 rfl rfl rfl) rfl rfl ?_
     intro a342 F343; clear F341
     refine ⟨fun _ _ => ⟨((Ext.refl w83).trans hx94), b98⟩, ?_⟩
     refine any_one (i := 24) (by decide +kernel) rfl ?_
     refine o_skip F343 rfl (unwanted_guard rfl rfl rfl F343 rfl rfl rfl) rfl rfl ?_
     intro a344 F345; clear F343
     refine ⟨fun _ _ => ⟨((Ext.refl w83).trans hx94), b98⟩, ?_⟩
     refine qk 25 F345 rfl rfl fun _ F347 => ?_; clear F345
     refine qp 26 (.bool true) F347 rfl rfl (fun W => (rn_pickT (c_true F347 rfl rfl) rfl)) fun _ F349 => ?_; clear F347
     refine qp 27 (.bool true) F349 rfl rfl (fun W => (rn_move (F349.get rfl))) fun _ F351 => ?_; clear F349
     refine qk 28 F351 rfl rfl fun _ F353 => ?_; clear F351
     refine qk 29 F353 rfl rfl fun _ F355 => ?_; clear F353
     refine qk 31 F355 rfl rfl fun _ F357 => ?_; clear F355
     refine any_one (i := 30) (by decide +kernel) rfl ?_
     refine o_skip F357 rfl (unwanted_guard rfl rfl rfl F357 rfl rfl rfl) rfl rfl ?_
     intro a358 F359; clear F357
     refine ⟨fun _ _ => ⟨((Ext.refl w83).trans hx94), b98⟩, ?_⟩
     refine qk 32 F359 rfl rfl fun _ F361 => ?_; clear F359
     refine qp 33 (.bool true) F361 rfl rfl (fun W => (rn_pickT (c_true F361 rfl rfl) rfl)) fun _ F363 => ?_; clear F361
     refine any_nil (by decide +kernel) ?_
     refine hK82 _ _ ?_
     clear hK82
     have F364 := (((((((((F363.nil.c F363 52 rfl).c F363 7 rfl).c F363 12 rfl).c F363 6 rfl).c F363 5 rfl).c F363 4 rfl).c F363 3 rfl).c F363 1 rfl).c F363 0 rfl)
     clear F363
     refine wp_cond_true (c_true F364 rfl rfl) ?_
     refine wp_ret ?_
     refine ret_then ?_
     refine ret_block ?_
     refine ret_then ?_
     refine ret_then ?_
     refine ret_block ?_
     refine ret_then ?_
     refine ret_block ?_
     refine ret_then ?_
     refine ret_block ?_
     refine scope_ret ?_
     refine ret0r F364 rfl ?_
     have hf365 := hJE _ _ _ hf13 ((((Ext.refl w8).trans hx27).trans hx84).trans hx94)
     have he := Rc.none hp12 (Rd.bad hp29 hi56 (fun h => by have h1 : (x55.getD 10 0).toNat % 2 = 1 ↔ n = 0 := h.2.1; omega))
     exact ⟨⟨_, rfl⟩, he ▸ hf365⟩
   ·skip
    by_cases hc366 : ((p + n : Nat) : Int) = ((p : Nat) : Int)
    ·skip
     refine qp 13 (.bool true) F124 rfl (wanted_guard rfl rfl rfl F124 rfl (not_t hc103) rfl) (fun W => (rn_neB Try.underlying4 (F124.get rfl) (F124.get rfl) (show _ = false from (decide_eq_false hc125)) (show _ = true from (decide_eq_true hc366)) rfl)) fun _ F368 => ?_; clear F124
     refine qp 14 (.bool true) F368 rfl rfl (fun W => (rn_pickF (c_false F368 rfl (not_t hc103)) (F368.get rfl))) fun _ F370 => ?_; clear F368
     refine qp 15 (.bool true) F370 rfl rfl (fun W => (rn_move (F370.get rfl))) fun _ F372 => ?_; clear F370
     refine qk 16 F372 rfl rfl fun _ F374 => ?_; clear F372
     refine qk 17 F374 rfl rfl fun _ F376 => ?_; clear F374
     refine qk 19 F376 rfl rfl fun _ F378 => ?_; clear F376
     refine qk 20 F378 rfl rfl fun _ F380 => ?_; clear F378
     refine qk 21 F380 rfl rfl fun _ F382 => ?_; clear F380
     refine qk 22 F382 rfl rfl fun _ F384 => ?_; clear F382
     refine qk 23 F384 rfl rfl fun _ F386 => ?_; clear F384
     refine any_one (i := 18) (by decide +kernel) rfl ?_
     refine o_skip F386 rfl (unwanted_guard rfl rfl rfl F386 rfl rfl rfl) rfl rfl ?_
     intro a387 F388; clear F386
     refine ⟨fun _ _ => ⟨((Ext.refl w83).trans hx94), b98⟩, ?_⟩
     refine any_one (i := 24) (by decide +kernel) rfl ?_
     refine o_skip F388 rfl (unwanted_guard rfl rfl rfl F388 rfl rfl rfl) rfl rfl ?_
     intro a389 F390; clear F388
     refine ⟨fun _ _ => ⟨((Ext.refl w83).trans hx94), b98⟩, ?_⟩
     refine qk 25 F390 rfl rfl fun _ F392 => ?_; clear F390
     refine qp 26 (.bool true) F392 rfl rfl (fun W => (rn_pickT (c_true F392 rfl rfl) rfl)) fun _ F394 => ?_; clear F392
     refine qp 27 (.bool true) F394 rfl rfl (fun W => (rn_move (F394.get rfl))) fun _ F396 => ?_; clear F394
     refine qk 28 F396 rfl rfl fun _ F398 => ?_; clear F396
     refine qk 29 F398 rfl rfl fun _ F400 => ?_; clear F398
     refine qk 31 F400 rfl rfl fun _ F402 => ?_; clear F400
     refine any_one (i := 30) (by decide +kernel) rfl ?_
     refine o_skip F402 rfl (unwanted_guard rfl rfl rfl F402 rfl rfl rfl) rfl rfl ?_
     intro a403 F404; clear F402
     refine ⟨fun _ _ => ⟨((Ext.refl w83).trans hx94), b98⟩, ?_⟩
     refine qk 32 F404 rfl rfl fun _ F406 => ?_; clear F404
     refine qp 33 (.bool true) F406 rfl rfl (fun W => (rn_pickT (c_true F406 rfl rfl) rfl)) fun _ F408 => ?_; clear F406
     refine any_nil (by decide +kernel) ?_
     refine hK82 _ _ ?_
     clear hK82
     have F409 := (((((((((F408.nil.c F408 52 rfl).c F408 7 rfl).c F408 12 rfl).c F408 6 rfl).c F408 5 rfl).c F408 4 rfl).c F408 3 rfl).c F408 1 rfl).c F408 0 rfl)
     clear F408
     refine wp_cond_true (c_true F409 rfl rfl) ?_
     refine wp_ret ?_
     refine ret_then ?_
     refine ret_block ?_
     refine ret_then ?_
     refine ret_then ?_
     refine ret_block ?_
     refine ret_then ?_
     refine ret_block ?_
     refine ret_then ?_
     refine ret_block ?_
     refine scope_ret ?_
     refine ret0r F409 rfl ?_
     have hf410 := hJE _ _ _ hf13 ((((Ext.refl w8).trans hx27).trans hx84).trans hx94)
     have he := Rc.none hp12 (Rd.bad hp29 hi56 (fun h => by have h1 : (x55.getD 10 0).toNat % 2 = 1 ↔ n = 0 := h.2.1; omega))
     exact ⟨⟨_, rfl⟩, he ▸ hf410⟩
    ·skip
     refine qp 13 (.bool false) F124 rfl (wanted_guard rfl rfl rfl F124 rfl (not_t hc103) rfl) (fun W => (rn_neB Try.underlying4 (F124.get rfl) (F124.get rfl) (show _ = false from (decide_eq_false hc125)) (show _ = false from (decide_eq_false hc366)) rfl)) fun _ F412 => ?_; clear F124
     refine qp 14 (.bool false) F412 rfl rfl (fun W => (rn_pickF (c_false F412 rfl (not_t hc103)) (F412.get rfl))) fun _ F414 => ?_; clear F412
     refine qp 15 (.bool false) F414 rfl rfl (fun W => (rn_move (F414.get rfl))) fun _ F416 => ?_; clear F414
     refine qp 16 (.slice A60 x55.length c61) F416 rfl (wanted_guard rfl rfl rfl F416 rfl rfl rfl) (fun W => (rn_move (F416.get rfl))) fun _ F418 => ?_; clear F416
     refine qp 17 (.slice A60 4 c61) F418 rfl (wanted_guard rfl rfl rfl F418 rfl rfl rfl) (fun W => (rn_sliceHi Try.underlying35 inf5 (F418.get rfl) rfl (by omega : (0 : Int) ≤ 4) (by omega : (4 : Int) ≤ ((c61 : Nat) : Int)))) fun _ F420 => ?_; clear F418
     refine qs 19 (.slice A L.length c) F420 rfl (wanted_guard rfl rfl rfl F420 rfl rfl rfl) hS112 (fun W hW => (rn_load (isAgg_no Try.underlying22 rfl) (F420.get rfl) (hW.2.rule.1 0))) fun _ F422 => ?_; clear F420
     refine qp 20 (.int .i64 (p : Nat)) F422 rfl (wanted_guard rfl rfl rfl F422 rfl rfl rfl) (fun W => (rn_move (F422.get rfl))) fun _ F424 => ?_; clear F422
     have d438 := ((hNc.ext hx27).ext hx84)
     obtain ⟨x425, hi426, hm427⟩ := nth_of_lt L p (by omega)
     obtain ⟨b428, o429, A430, c431, hA432, hl433, hc434, hr435, le436, le437⟩ := RBss.get d438 hi426
     have z439 : x425.length = 128 := hL x425 (List.mem_of_getElem? hi426)
     have z440 := mod8 (x425.getD 10 0); have z441 := and1_fact (x425.getD 10 0); have z442 := and2_fact (x425.getD 10 0); have z443 := UInt8.toNat_lt (x425.getD 10 0)
     refine qp 21 (.pointer (some ⟨b428, o429 + p, none⟩)) F424 rfl (wanted_guard rfl rfl rfl F424 rfl rfl rfl) (fun W => (rn_index1 Try.underlying22 inf35 ((F424.get rfl).trans (by rw [hA432])) (F424.get rfl) (by omega : (0 : Int) ≤ (p : Nat)) (by omega : ((p : Nat) : Int) < ((L.length : Nat) : Int)))) fun _ F445 => ?_; clear F424
     refine qs 22 (.slice A430 x425.length c431) F445 rfl (wanted_guard rfl rfl rfl F445 rfl rfl rfl) hS112 (fun W hW => (rn_load (isAgg_no Try.underlying35 rfl) (F445.get rfl) (Ext.keep ((Ext.refl w83).trans hW.1) hc434))) fun _ F447 => ?_; clear F445
     refine qp 23 (.slice A430 4 c431) F447 rfl (wanted_guard rfl rfl rfl F447 rfl rfl rfl) (fun W => (rn_sliceHi Try.underlying35 inf5 (F447.get rfl) rfl (by omega : (0 : Int) ≤ 4) (by omega : (4 : Int) ≤ ((c431 : Nat) : Int)))) fun _ F449 => ?_; clear F447
     refine any_one (i := 18) (by decide +kernel) rfl ?_
     have d450 := (((RBs.fl hr65).ext hx84).ext hx94)
     have hf451 := (Fl.take_eq (j := 4) d450 (by omega) (byteVals_take1 _ _))
     have z452 := num_lt4 (l := x55.take 4) (by have := Fl.blen hf451; omega)
     refine o_call F449 rfl (wanted_guard rfl rfl rfl F449 rfl rfl rfl) rfl rfl (rn_call (args1 (F449.get rfl)) rfl (by kernel_rfl)) (get_at (v := (.slice A60 4 c61)) (m := 4) (x55.take 4) _ hf451 (by omega)) ?_
     rintro _ w453 ⟨rfl, hx454⟩
     refine ⟨_, rfl, ?_⟩; intro a455 F456; clear F449; have z457 := hx454.size
     have b458 := (b98.ext hx454)
     refine ⟨fun _ _ => ⟨(((Ext.refl w83).trans hx94).trans hx454), b458⟩, ?_⟩
     refine any_one (i := 24) (by decide +kernel) rfl ?_
     have d459 := (((RBs.fl hr435).ext hx94).ext hx454)
     have hf460 := (Fl.take_eq (j := 4) d459 (by omega) (byteVals_take1 _ _))
     have z461 := num_lt4 (l := x425.take 4) (by have := Fl.blen hf460; omega)
     refine o_call F456 rfl (wanted_guard rfl rfl rfl F456 rfl rfl rfl) rfl rfl (rn_call (args1 (F456.get rfl)) rfl (by kernel_rfl)) (get_at (v := (.slice A430 4 c431)) (m := 4) (x425.take 4) _ hf460 (by omega)) ?_
     rintro _ w462 ⟨rfl, hx463⟩
     refine ⟨_, rfl, ?_⟩; intro a464 F465; clear F456; have z466 := hx463.size
     have b467 := (b458.ext hx463)
     refine ⟨fun _ _ => ⟨((((Ext.refl w83).trans hx94).trans hx454).trans hx463), b467⟩, ?_⟩
     refine qp 25 (.bool (decide (((num (x55.take 4) : Nat) : Int) ≠ ((num (x425.take 4) : Nat) : Int)))) F465 rfl (wanted_guard rfl rfl rfl F465 rfl rfl rfl) (fun W => (rn_neq (F465.get rfl) (F465.get rfl))) fun _ F469 => ?_; clear F465
     refine qp 26 (.bool (decide (((num (x55.take 4) : Nat) : Int) ≠ ((num (x425.take 4) : Nat) : Int)))) F469 rfl rfl (fun W => (rn_pickF (c_false F469 rfl rfl) (F469.get rfl))) fun _ F471 => ?_; clear F469
     refine qp 27 (.bool (decide (((num (x55.take 4) : Nat) : Int) ≠ ((num (x425.take 4) : Nat) : Int)))) F471 rfl rfl (fun W => (rn_move (F471.get rfl))) fun _ F473 => ?_; clear F471
     by_cases hc474 : ((num (x55.take 4) : Nat) : Int) ≠ ((num (x425.take 4) : Nat) : Int)
     ·skip
      refine qk 28 F473 rfl (decide_eq_true hc474) fun _ F476 => ?_; clear F473
      refine qk 29 F476 rfl (decide_eq_true hc474) fun _ F478 => ?_; clear F476
      refine qk 31 F478 rfl (decide_eq_true hc474) fun _ F480 => ?_; clear F478
      refine any_one (i := 30) (by decide +kernel) rfl ?_
      refine o_skip F480 rfl (unwanted_guard rfl rfl rfl F480 rfl (decide_eq_true hc474) rfl) rfl rfl ?_
      intro a481 F482; clear F480
      refine ⟨fun _ _ => ⟨((((Ext.refl w83).trans hx94).trans hx454).trans hx463), b467⟩, ?_⟩
      refine qk 32 F482 rfl (decide_eq_true hc474) fun _ F484 => ?_; clear F482
      refine qp 33 (.bool true) F484 rfl rfl (fun W => (rn_pickT (c_true F484 rfl (decide_eq_true hc474)) rfl)) fun _ F486 => ?_; clear F484
      refine any_nil (by decide +kernel) ?_
      refine hK82 _ _ ?_
      clear hK82
      have F487 := (((((((((F486.nil.c F486 52 rfl).c F486 7 rfl).c F486 12 rfl).c F486 6 rfl).c F486 5 rfl).c F486 4 rfl).c F486 3 rfl).c F486 1 rfl).c F486 0 rfl)
      clear F486
      refine wp_cond_true (c_true F487 rfl rfl) ?_
      refine wp_ret ?_
      refine ret_then ?_
      refine ret_block ?_
      refine ret_then ?_
      refine ret_then ?_
      refine ret_block ?_
      refine ret_then ?_
      refine ret_block ?_
      refine ret_then ?_
      refine ret_block ?_
      refine scope_ret ?_
      refine ret0r F487 rfl ?_
      have hf488 := hJE _ _ _ hf13 ((((((Ext.refl w8).trans hx27).trans hx84).trans hx94).trans hx454).trans hx463)
      have he := Rc.none hp12 (Rd.bad hp29 hi56 (fun h => by have h2 : num (x55.take 4) = num (x425.take 4) := h.2.2.trans (gen_at hi426); omega))
      exact ⟨⟨_, rfl⟩, he ▸ hf488⟩
     ·skip
      refine qp 28 (.slice A60 x55.length c61) F473 rfl (wanted_guard rfl rfl rfl F473 rfl (decide_eq_false hc474) rfl) (fun W => (rn_move (F473.get rfl))) fun _ F490 => ?_; clear F473
      refine qp 29 (.slice A60 4 c61) F490 rfl (wanted_guard rfl rfl rfl F490 rfl (decide_eq_false hc474) rfl) (fun W => (rn_sliceHi Try.underlying35 inf5 (F490.get rfl) rfl (by omega : (0 : Int) ≤ 4) (by omega : (4 : Int) ≤ ((c61 : Nat) : Int)))) fun _ F492 => ?_; clear F490
      refine qp 31 (.int .u64 (last : Nat)) F492 rfl (wanted_guard rfl rfl rfl F492 rfl (decide_eq_false hc474) rfl) (fun W => (rn_move (F492.get rfl))) fun _ F494 => ?_; clear F492
      refine any_one (i := 30) (by decide +kernel) rfl ?_
      have d495 := (((((RBs.fl hr65).ext hx84).ext hx94).ext hx454).ext hx463)
      have hf496 := (Fl.take_eq (j := 4) d495 (by omega) (byteVals_take1 _ _))
      have z497 := num_lt4 (l := x55.take 4) (by have := Fl.blen hf496; omega)
      refine o_call F494 rfl (wanted_guard rfl rfl rfl F494 rfl (decide_eq_false hc474) rfl) rfl rfl (rn_call (args1 (F494.get rfl)) rfl (by kernel_rfl)) (get_at (v := (.slice A60 4 c61)) (m := 4) (x55.take 4) _ hf496 (by omega)) ?_
      rintro _ w498 ⟨rfl, hx499⟩
      refine ⟨_, rfl, ?_⟩; intro a500 F501; clear F494; have z502 := hx499.size
      have b503 := (b467.ext hx499)
      refine ⟨fun _ _ => ⟨(((((Ext.refl w83).trans hx94).trans hx454).trans hx463).trans hx499), b503⟩, ?_⟩
      refine qp 32 (.bool (decide (((num (x55.take 4) : Nat) : Int) < ((last : Nat) : Int)))) F501 rfl (wanted_guard rfl rfl rfl F501 rfl (decide_eq_false hc474) rfl) (fun W => (rn_lss (F501.get rfl) (F501.get rfl))) fun _ F505 => ?_; clear F501
      refine qp 33 (.bool (decide (((num (x55.take 4) : Nat) : Int) < ((last : Nat) : Int)))) F505 rfl rfl (fun W => (rn_pickF (c_false F505 rfl (decide_eq_false hc474)) (F505.get rfl))) fun _ F507 => ?_; clear F505
      refine any_nil (by decide +kernel) ?_
      refine hK82 _ _ ?_
      clear hK82
      have F508 := (((((((((F507.nil.c F507 52 rfl).c F507 7 rfl).c F507 12 rfl).c F507 6 rfl).c F507 5 rfl).c F507 4 rfl).c F507 3 rfl).c F507 1 rfl).c F507 0 rfl)
      clear F507
      by_cases hc509 : ((num (x55.take 4) : Nat) : Int) < ((last : Nat) : Int)
      ·skip
       refine wp_cond_true (c_true F508 rfl (decide_eq_true hc509)) ?_
       refine wp_ret ?_
       refine ret_then ?_
       refine ret_block ?_
       refine ret_then ?_
       refine ret_then ?_
       refine ret_block ?_
       refine ret_then ?_
       refine ret_block ?_
       refine ret_then ?_
       refine ret_block ?_
       refine scope_ret ?_
       refine ret0r F508 rfl ?_
       have hf510 := hJE _ _ _ hf13 (((((((Ext.refl w8).trans hx27).trans hx84).trans hx94).trans hx454).trans hx463).trans hx499)
       have he := Rc.old hp12 hi426 (by show num (x425.take 4) < last; omega)
       exact ⟨⟨_, rfl⟩, he ▸ hf510⟩
      ·skip
       refine wp_cond_false (c_false F508 rfl (decide_eq_false hc509)) ?_
       refine wp_skip ?_
       refine hK81 _ _ ?_
       clear hK81
       refine wp_seq_k (fun K511 hK511 => ?_)
       refine wp_region_lit ?_
       refine qv 0 (.slice Ar nr cr) F508 rfl (rn_move (F508.get rfl)) fun _ F513 => ?_; clear F508
       refine qv 1 (.slice A60 x55.length c61) F513 rfl (rn_move (F513.get rfl)) fun _ F515 => ?_; clear F513
       refine qv 2 (.slice A60 x55.length c61) F515 rfl (rn_move (F515.get rfl)) fun _ F517 => ?_; clear F515
       refine qv 3 (.pointer (some ⟨b107, o108 + 11, none⟩)) F517 rfl (rn_index1 Try.underlying35 inf5 ((F517.get rfl).trans (by rw [hA109])) rfl (by omega : (0 : Int) ≤ 11) (by omega : (11 : Int) < ((x55.length : Nat) : Int))) fun _ F519 => ?_; clear F517
       have d520 := ((((((RBs.fl hr65).ext hx84).ext hx94).ext hx454).ext hx463).ext hx499)
       refine qv 4 (.int .u8 ((x55.getD 11 0).toNat : Nat)) F519 rfl (rn_load (isAgg_no Try.underlying5 rfl) (F519.get rfl) (Fl.cellAt d520 hA109 (byteVals_at (i := 11) (by omega)))) fun _ F522 => ?_; clear F519
       have z523 := UInt8.toNat_lt (x55.getD 11 0)
       refine qv 5 (.int .i64 ((x55.getD 11 0).toNat : Nat)) F522 rfl (rn_convW Try.underlying5 Try.underlying3 (F522.get rfl) (cv8_64 (x55.getD 11 0))) fun _ F525 => ?_; clear F522
       refine qv 6 (.int .i64 (12 + ((x55.getD 11 0).toNat) : Nat)) F525 rfl (rn_addN (a := 12) (b := (x55.getD 11 0).toNat) rfl (F525.get rfl) (by omega)) fun _ F527 => ?_; clear F525
       refine qv 7 (.slice (some ⟨b107, o108 + 12 * 1, none⟩) ((x55.getD 11 0).toNat) (c61 - 12)) F527 rfl (rn_sliceLH (l := 12) (h := (12 + ((x55.getD 11 0).toNat))) Try.underlying35 inf5 ((F527.get rfl).trans (by rw [hA109])) rfl (F527.get rfl) (by omega) (by omega) (by omega) (by omega)) fun _ F529 => ?_; clear F527
       have r530 := (own_ext (own_ext (own_ext (own_ext (own_ext r31 hx84) hx94) hx454) hx463) hx499)
       have hf539 := r530
       refine wpl_op (i := 8) rfl (o_appB (zs := byteVals (b ++ ((x55.drop 12).take ((x55.getD 11 0).toNat)))) El35 F529 rfl rfl rfl rfl rfl (F529.get rfl) (F529.get rfl) hf539 (Fl.cel (Fl.mid_eq (j := 12) (m' := (x55.getD 11 0).toNat) d520 hA109 (by omega) (by omega) (byteVals_mid _ _ _))).2.2 (by omega) (by omega) (by omega) (byteVals_app _ _) ?_)
       intro A531 c532 w533 a540 F541 r534 hg535 z536 z537 hnb538; clear F529; have z542 := hg535.size
       refine qv 9 (.slice A531 (nr + ((x55.getD 11 0).toNat)) c532) F541 rfl (rn_assign (F541.get rfl)) fun _ F544 => ?_; clear F541
       refine wpList_nil ?_
       refine hK511 _ _ ?_
       clear hK511
       have F545 := (((((((((F544.nil.c F544 52 rfl).c F544 7 rfl).c F544 12 rfl).c F544 6 rfl).c F544 5 rfl).c F544 4 rfl).c F544 3 rfl).c F544 1 rfl).c F544 0 rfl)
       clear F544
       refine wp_seq_k (fun K546 hK546 => ?_)
       refine wp_region_lit ?_
       refine qv 0 (.slice A60 x55.length c61) F545 rfl (rn_move (F545.get rfl)) fun _ F548 => ?_; clear F545
       refine qv 1 (.pointer (some ⟨b107, o108 + 10, none⟩)) F548 rfl (rn_index1 Try.underlying35 inf5 ((F548.get rfl).trans (by rw [hA109])) rfl (by omega : (0 : Int) ≤ 10) (by omega : (10 : Int) < ((x55.length : Nat) : Int))) fun _ F550 => ?_; clear F548
       have d551 := ((RBs.fl hr65).pres (Pres.row ((((((Pres.refl w25).ext hx84).ext hx94).ext hx454).ext hx463).ext hx499) hg535 hf539 (fun b hb h => by simp only [Clip] at h; omega)))
       refine qv 2 (.int .u8 ((x55.getD 10 0).toNat : Nat)) F550 rfl (rn_load (isAgg_no Try.underlying5 rfl) (F550.get rfl) (Fl.cellAt d551 hA109 (byteVals_at (i := 10) (by omega)))) fun _ F553 => ?_; clear F550
       refine qv 3 (.int .u8 (((x55.getD 10 0) &&& (2 : UInt8)).toNat : Nat)) F553 rfl (rn_and8 (a := (x55.getD 10 0)) (b := (2 : UInt8)) (F553.get rfl) rfl) fun _ F555 => ?_; clear F553
       refine qv 4 (.bool (decide (((((x55.getD 10 0) &&& (2 : UInt8)).toNat : Nat) : Int) ≠ (0 : Int)))) F555 rfl (rn_neq (F555.get rfl) rfl) fun _ F557 => ?_; clear F555
       refine wpList_nil ?_
       refine hK546 _ _ ?_
       clear hK546
       have F558 := ((((((((((F557.nil.c F557 66 rfl).c F557 52 rfl).c F557 7 rfl).c F557 12 rfl).c F557 6 rfl).c F557 5 rfl).c F557 4 rfl).c F557 3 rfl).c F557 1 rfl).c F557 0 rfl)
       clear F557
       by_cases hc559 : ((((x55.getD 10 0) &&& (2 : UInt8)).toNat : Nat) : Int) ≠ (0 : Int)
       ·skip
        refine wp_cond_true (c_true F558 rfl (decide_eq_true hc559)) ?_
        refine wp_seq_k (fun K560 hK560 => ?_)
        refine wp_region_lit ?_
        refine qv 0 (.int .i64 (p + n : Nat)) F558 rfl (rn_move (F558.get rfl)) fun _ F562 => ?_; clear F558
        refine qv 1 (.int .i64 ((p + n) + 1 : Nat)) F562 rfl (rn_addN (a := p + n) (b := 1) (F562.get rfl) rfl (by omega)) fun _ F564 => ?_; clear F562
        refine qv 2 (.slice A60 x55.length c61) F564 rfl (rn_move (F564.get rfl)) fun _ F566 => ?_; clear F564
        refine qv 3 (.slice A60 4 c61) F566 rfl (rn_sliceHi Try.underlying35 inf5 (F566.get rfl) rfl (by omega : (0 : Int) ≤ 4) (by omega : (4 : Int) ≤ ((c61 : Nat) : Int))) fun _ F568 => ?_; clear F566
        have hf569 := (Fl.take_eq (j := 4) d551 (by omega) (byteVals_take1 _ _))
        have z570 := num_lt4 (l := x55.take 4) (by have := Fl.blen hf569; omega)
        refine wpl_op (i := 4) rfl (o_call F568 rfl rfl rfl rfl (rn_call (args1 (F568.get rfl)) rfl (by kernel_rfl)) (get_at (v := (.slice A60 4 c61)) (m := 4) (x55.take 4) _ hf569 (by omega)) ?_)
        rintro _ w571 ⟨rfl, hx572⟩
        refine ⟨_, rfl, ?_⟩; intro a573 F574; clear F568; have z575 := hx572.size
        refine qv 5 (.int .i64 ((p + n) + 1 : Nat)) F574 rfl (rn_assign (F574.get rfl)) fun _ F577 => ?_; clear F574
        refine qv 6 (.int .u64 (num (x55.take 4) : Nat)) F577 rfl (rn_assign (F577.get rfl)) fun _ F579 => ?_; clear F577
        refine wpList_nil ?_
        refine hK560 _ _ ?_
        clear hK560
        have F580 := ((((((((((F579.nil.c F579 66 rfl).c F579 52 rfl).c F579 7 rfl).c F579 12 rfl).c F579 6 rfl).c F579 5 rfl).c F579 4 rfl).c F579 3 rfl).c F579 1 rfl).c F579 0 rfl)
        clear F579
        refine wp_seq_k (fun K581 hK581 => ?_)
        refine wp_seq_k (fun K582 hK582 => ?_)
        refine (wpIn_wide (n := 10)).1 (wpIn_region_lit ?_)
        refine wide_val (v := (.func (.yield l) #[] #[])) F580 rfl rfl rfl (rn_move (F580.get rfl)) ?_
        intro a583 F584; clear F580
        refine wide_val (v := (.int .i64 ((p + n) + 1 : Nat))) F584 rfl rfl rfl (rn_move (F584.get rfl)) ?_
        intro a585 F586; clear F584
        refine wide_val (v := (.slice A531 (nr + ((x55.getD 11 0).toNat)) c532)) F586 rfl rfl rfl (rn_move (F586.get rfl)) ?_
        intro a587 F588; clear F586
        have r589 := (own_ext r534 hx572)
        have hf590 := r589
        have hf591 := hJE _ _ _ hf13 ((ext_row (((((((Ext.refl w8).trans hx27).trans hx84).trans hx94).trans hx454).trans hx463).trans hx499) hg535 hf539 (by omega)).trans hx572)
        have hge : gen x55 = gen (L.getD p []) := by rw [gen_at hi426]; show num (x55.take 4) = num (x425.take 4); omega
        have hok : RdOk L p n x55 := ⟨hc103, by show (x55.getD 10 0).toNat % 2 = 1 ↔ n = 0; omega, hge⟩
        have hpre := Rc.next hp12 hi426 (Rd.fin hp29 hi56 hok (by show 2 ≤ (x55.getD 10 0).toNat; omega)) (by show ¬ num (x425.take 4) < last; omega)
        refine wide_yield F588 rfl rfl rfl (rn_yield (F588.get rfl) (args2 (F588.get rfl) (F588.get rfl))) (hY _ _ _ _ hf591 ⟨_, _, _, _, _, rfl, hf590, by omega⟩ ⟨_, hpre.trans (List.append_assoc _ _ _)⟩) ?_
        rintro _ w593 ⟨rfl, hJ592⟩; refine ⟨_, rfl, ?_⟩; intro a594 F595; clear F588
        refine wide_val (v := .bool false) F595 rfl rfl rfl (rn_not' (F595.get rfl) rfl) ?_
        intro a596 F597; clear F595
        refine wpListIn_nil ?_
        refine hK582 _ _ ?_
        clear hK582
        have F598 := (((((((((((F597.nil.c F597 76 rfl).c F597 66 rfl).c F597 52 rfl).c F597 7 rfl).c F597 12 rfl).c F597 6 rfl).c F597 5 rfl).c F597 4 rfl).c F597 3 rfl).c F597 1 rfl).c F597 0 rfl)
        clear F597
        refine wp_cond_false (c_false F598 rfl rfl) ?_
        refine wp_skip ?_
        refine hK581 _ _ ?_
        clear hK581
        refine wp_exit ?_
        refine exit_past (by decide) ?_
        refine exit_then ?_
        refine exit_then ?_
        refine exit_past (by decide) ?_
        refine exit_then ?_
        refine exit_here ?_
        have hrc := Rc.next hp12 hi426 (Rd.fin hp29 hi56 hok (by show 2 ≤ (x55.getD 10 0).toNat; omega)) (by show ¬ num (x425.take 4) < last; omega)
        rw [show gen x425 = num (x55.take 4) by rw [← gen_at hi426]; exact hge.symm] at hrc
        refine ⟨⟨(p + n) + 1, num (x55.take 4), out ++ [b ++ ((x55.drop 12).take ((x55.getD 11 0).toNat))], ((((F598.nil.cons (q_get F598 (t := 4) rfl (by first | rfl | (congr 1; omega) | (congr 1; done)))).cons (q_get F598 (t := 3) rfl (by first | rfl | (congr 1; omega) | (congr 1; done)))).cons (q_get F598 (t := 1) rfl rfl)).cons (q_get F598 (t := 0) rfl rfl)), (by omega), hrc, trivial, hJ592⟩, ?_⟩
        rw [F598.get (t := 3) rfl, hL14.get (t := 3) rfl]; simp [intOf] <;> omega
       ·skip
        refine wp_cond_false (c_false F558 rfl (decide_eq_false hc559)) ?_
        refine wp_skip ?_
        refine hK49 _ _ ?_
        clear hK49
        refine wp_region_lit ?_
        refine qv 0 (.int .i64 (p + n : Nat)) F558 rfl (rn_move (F558.get rfl)) fun _ F600 => ?_; clear F558
        refine qv 1 (.int .i64 ((p + n) + 1 : Nat)) F600 rfl (rn_addN (a := p + n) (b := 1) (F600.get rfl) rfl (by omega)) fun _ F602 => ?_; clear F600
        refine qv 2 (.int .i64 ((p + n) + 1 : Nat)) F602 rfl (rn_assign (F602.get rfl)) fun _ F604 => ?_; clear F602
        refine wpList_nil ?_
        have hge : gen x55 = gen (L.getD p []) := by rw [gen_at hi426]; show num (x55.take 4) = num (x425.take 4); omega
        have hok : RdOk L p n x55 := ⟨hc103, by show (x55.getD 10 0).toNat % 2 = 1 ↔ n = 0; omega, hge⟩
        have b605 := (grown_blk hf539 hg535 b503 (by decide))
        refine ⟨⟨(n + 1), A531, nr + ((x55.getD 11 0).toNat), c532, b ++ ((x55.drop 12).take ((x55.getD 11 0).toNat)), ((((((F604.nil.cons (q_get F604 (t := 6) rfl (by first | rfl | (congr 1; omega) | (congr 1; done)))).cons (q_get F604 (t := 5) rfl (by first | rfl | (congr 1; omega) | (congr 1; done)))).cons (q_get F604 (t := 4) rfl rfl)).cons (q_get F604 (t := 3) rfl rfl)).cons (q_get F604 (t := 1) rfl rfl)).cons (q_get F604 (t := 0) rfl rfl)), ⟨by omega, by omega⟩, (Rd.next hp29 hi56 hok (by show ¬ 2 ≤ (x55.getD 10 0).toNat; omega)), (ext_row (((((((Ext.refl w8).trans hx27).trans hx84).trans hx94).trans hx454).trans hx463).trans hx499) hg535 hf539 (by omega)), b605, r534, (by omega), (by omega)⟩, ?_⟩
        rw [F604.get (t := 6) rfl, hL34.get (t := 6) rfl]; simp [intOf] <;> omega
  ·skip
   refine qk 5 F102 rfl (not_f hc103) fun _ F607 => ?_; clear F102
   refine qk 6 F607 rfl (not_f hc103) fun _ F609 => ?_; clear F607
   refine qk 7 F609 rfl (not_f hc103) fun _ F611 => ?_; clear F609
   refine qk 8 F611 rfl (not_f hc103) fun _ F613 => ?_; clear F611
   refine qk 9 F613 rfl (not_f hc103) fun _ F615 => ?_; clear F613
   refine qk 10 F615 rfl (not_f hc103) fun _ F617 => ?_; clear F615
   refine qk 11 F617 rfl (not_f hc103) fun _ F619 => ?_; clear F617
   refine qk 12 F619 rfl (not_f hc103) fun _ F621 => ?_; clear F619
   refine qk 13 F621 rfl (not_f hc103) fun _ F623 => ?_; clear F621
   refine qp 14 (.bool true) F623 rfl rfl (fun W => (rn_pickT (c_true F623 rfl (not_f hc103)) rfl)) fun _ F625 => ?_; clear F623
   refine qp 15 (.bool true) F625 rfl rfl (fun W => (rn_move (F625.get rfl))) fun _ F627 => ?_; clear F625
   refine qk 16 F627 rfl rfl fun _ F629 => ?_; clear F627
   refine qk 17 F629 rfl rfl fun _ F631 => ?_; clear F629
   refine qk 19 F631 rfl rfl fun _ F633 => ?_; clear F631
   refine qk 20 F633 rfl rfl fun _ F635 => ?_; clear F633
   refine qk 21 F635 rfl rfl fun _ F637 => ?_; clear F635
   refine qk 22 F637 rfl rfl fun _ F639 => ?_; clear F637
   refine qk 23 F639 rfl rfl fun _ F641 => ?_; clear F639
   refine any_one (i := 18) (by decide +kernel) rfl ?_
   refine o_skip F641 rfl (unwanted_guard rfl rfl rfl F641 rfl rfl rfl) rfl rfl ?_
   intro a642 F643; clear F641
   refine ⟨fun _ _ => ⟨((Ext.refl w83).trans hx94), b98⟩, ?_⟩
   refine any_one (i := 24) (by decide +kernel) rfl ?_
   refine o_skip F643 rfl (unwanted_guard rfl rfl rfl F643 rfl rfl rfl) rfl rfl ?_
   intro a644 F645; clear F643
   refine ⟨fun _ _ => ⟨((Ext.refl w83).trans hx94), b98⟩, ?_⟩
   refine qk 25 F645 rfl rfl fun _ F647 => ?_; clear F645
   refine qp 26 (.bool true) F647 rfl rfl (fun W => (rn_pickT (c_true F647 rfl rfl) rfl)) fun _ F649 => ?_; clear F647
   refine qp 27 (.bool true) F649 rfl rfl (fun W => (rn_move (F649.get rfl))) fun _ F651 => ?_; clear F649
   refine qk 28 F651 rfl rfl fun _ F653 => ?_; clear F651
   refine qk 29 F653 rfl rfl fun _ F655 => ?_; clear F653
   refine qk 31 F655 rfl rfl fun _ F657 => ?_; clear F655
   refine any_one (i := 30) (by decide +kernel) rfl ?_
   refine o_skip F657 rfl (unwanted_guard rfl rfl rfl F657 rfl rfl rfl) rfl rfl ?_
   intro a658 F659; clear F657
   refine ⟨fun _ _ => ⟨((Ext.refl w83).trans hx94), b98⟩, ?_⟩
   refine qk 32 F659 rfl rfl fun _ F661 => ?_; clear F659
   refine qp 33 (.bool true) F661 rfl rfl (fun W => (rn_pickT (c_true F661 rfl rfl) rfl)) fun _ F663 => ?_; clear F661
   refine any_nil (by decide +kernel) ?_
   refine hK82 _ _ ?_
   clear hK82
   have F664 := (((((((((F663.nil.c F663 52 rfl).c F663 7 rfl).c F663 12 rfl).c F663 6 rfl).c F663 5 rfl).c F663 4 rfl).c F663 3 rfl).c F663 1 rfl).c F663 0 rfl)
   clear F663
   refine wp_cond_true (c_true F664 rfl rfl) ?_
   refine wp_ret ?_
   refine ret_then ?_
   refine ret_block ?_
   refine ret_then ?_
   refine ret_then ?_
   refine ret_block ?_
   refine ret_then ?_
   refine ret_block ?_
   refine ret_then ?_
   refine ret_block ?_
   refine scope_ret ?_
   refine ret0r F664 rfl ?_
   have hf665 := hJE _ _ _ hf13 ((((Ext.refl w8).trans hx27).trans hx84).trans hx94)
   have he := Rc.none hp12 (Rd.bad hp29 hi56 (fun h => absurd (h.1.symm.trans hc103) (by decide)))
   exact ⟨⟨_, rfl⟩, he ▸ hf665⟩
 ·skip
  refine wp_cond_false (c_false F47 rfl (decide_eq_false hc48)) ?_
  refine wp_exit ?_
  refine exit_then ?_
  refine exit_then ?_
  refine exit_here ?_
  refine hK18 _ _ ?_
  clear hK18
  refine wp_ret ?_
  refine ret_block ?_
  refine ret_then ?_
  refine ret_block ?_
  refine scope_ret ?_
  refine ret0r F47 rfl ?_
  have hf666 := hJE _ _ _ hf13 ((Ext.refl w8).trans hx27)
  have he := Rc.none hp12 (Rd.over hp29 (by omega))
  exact ⟨⟨_, rfl⟩, he ▸ hf666⟩

end Go.Proofs.Ytfmhnplkpohogaa

namespace Go.Proofs.Ytfmhnplkpohogaa

theorem recsAt_nil (n last : Nat) : recsAt [] n last = [] := recsAt_none rfl
theorem recsOf_at (L : List (List UInt8)) : recsOf L = recsAt L 0 0 := rfl
theorem reads_first (L : List (List UInt8)) : ∃ g, usedL (recsOf L) ≤ L.length ∧ Reads (L.take (usedL (recsOf L))) 0 0 (recsOf L) g ∧ g ≤ maxG L := by
  obtain ⟨g, h1, h2, h3⟩ := reads_of (L.length + 1) L 0 0 (by omega)
  refine ⟨g, h1, h2, ?_⟩
  rcases h3 with rfl | ⟨s, hs, rfl⟩
  · omega
  · exact (le_maxG s hs).1
theorem recs_first {L rs : List (List UInt8)} (hr : recsOf L = rs) (r : List (List UInt8)) : ∃ g, g ≤ maxG L ∧ recsOf (L.take (usedL rs) ++ r) = rs ++ recsAt r (usedL rs) g := by
  subst hr
  obtain ⟨g, h1, h2, h3⟩ := reads_first L
  refine ⟨g, h3, ?_⟩
  have e := h2.recs r
  rw [List.length_take, Nat.min_eq_left h1, Nat.zero_add] at e
  exact e
theorem used_first {L rs : List (List UInt8)} (hr : recsOf L = rs) : usedL rs ≤ L.length := by
  subst hr
  obtain ⟨g, h1, -, -⟩ := reads_first L
  exact h1
theorem recs_len (L : List (List UInt8)) : (recsOf L).length ≤ L.length := Nat.le_trans (usedL_len _) (used_first rfl)
theorem recs_rest {L : List (List UInt8)} {k n g : Nat} (hg : maxG L < g) : recsAt (L.drop k) n g = [] := by
  rcases h : L.drop k with _ | ⟨s, r⟩
  · exact recsAt_nil _ _
  · refine recsAt_old ?_
    have hs : s ∈ L := List.mem_of_mem_drop (i := k) (by rw [h]; simp)
    have := (le_maxG s hs).1
    show gen s < g
    omega
/-- all is read -/
theorem recs_new {L rs ns : List (List UInt8)} {g : Nat} (hr : recsOf L = rs) (hg : maxG L < g) (hg2 : g < 4294967296) (hn : ns ≠ []) (k : Nat) : recsOf (L.take (usedL rs) ++ allSecs g (usedL rs) ns ++ L.drop k) = rs ++ ns := by
  rw [List.append_assoc]
  obtain ⟨g0, h1, h2⟩ := recs_first hr (allSecs g (usedL rs) ns ++ L.drop k)
  rw [h2, (reads_all (by omega) hg2 ns (usedL rs) g0 (by omega)).recs, if_neg hn, recs_rest hg, List.append_nil]
/-! the disk after a sync -/
section
variable {l : Lg} {d : Dk}
theorem secs_len : (l.secs d).length = usedL (l.recs.drop l.synced.toNat) := allSecs_len _ _ _
theorem secs_128 : ∀ s ∈ l.secs d, s.length = 128 := allSecs_128 _ _ _
theorem wr_fit (h : Goes l d) (hu : usedL l.recs < 9223372036854775808) : l.at + (l.secs d).length ≤ d.sectors.length := by rw [secs_len]; exact (h.room hu).1
theorem wr_ok_runs (h : Goes l d) (hu : usedL l.recs < 9223372036854775808) : (d.wr l.at (l.secs d)).runs = true := wr_runs h (wr_fit h hu) secs_128
theorem drop_ne (h : Goes l d) (h6 : l.synced ≠ (l.recs.length : Nat)) : l.recs.drop l.synced.toNat ≠ [] := by
  have := check_facts h.lc
  intro e
  have := congrArg List.length e
  rw [List.length_drop] at this
  simp at this
  omega
/-- it went well -/
theorem sync_good (h : Goes l d) (hu : usedL l.recs < 9223372036854775808) (hl : d.left < 0 ∨ (usedL (l.recs.drop l.synced.toNat) : Nat) ≤ d.left) :
    (d.wr l.at (l.secs d)).sync = (⟨d.sectors.take l.at ++ l.secs d ++ d.sectors.drop (l.at + (l.secs d).length), [], if 0 ≤ d.left then d.left - (usedL (l.recs.drop l.synced.toNat) : Nat) else d.left, false⟩, 0) := by
  have hp : (d.wr l.at (l.secs d)).pending.length = usedL (l.recs.drop l.synced.toNat) := by show (atL _ _).length = _; rw [atL_len, secs_len]
  have e : (d.wr l.at (l.secs d)).left = d.left := rfl
  unfold Dk.sync
  rw [wr_ok_runs h hu, if_neg (by decide), hp, e, if_neg (by omega)]
  unfold Dk.syncOk
  rw [hp, e]
  show (Dk.mk (performL d.sectors (atL _ _)) _ _ _, _) = _
  rw [perform_at (wr_fit h hu)]
theorem secs_gens (h : Goes l d) : ∀ s ∈ l.secs d, gen s = maxG d.sectors + 1 ∧ gen2 s = maxG d.sectors + 1 := allSecs_gen h.gn _ _
/-- the records after it went well -/
theorem recs_good (h : Goes l d) (h6 : l.synced ≠ (l.recs.length : Nat)) (k : Nat) : recsOf (d.sectors.take l.at ++ l.secs d ++ d.sectors.drop k) = l.recs := by
  have e := recs_new (g := maxG d.sectors + 1) h.rcs (by omega) h.gn (drop_ne h h6) k
  rw [List.take_append_drop] at e
  exact e
end

end Go.Proofs.Ytfmhnplkpohogaa

namespace Go.Proofs.Ytfmhnplkpohogaa
open Go.RowKit
set_option maxRecDepth 100000

variable {S S' : Nat → Prop}

theorem SlD.c {ds : List Deferred} {N : Nat} {m m' : List (Nat × Value)} {a : Act} (h : SlD ds N m' a) (hF : SlD ds N m a) (t : Nat) {v : Value} (e : look m t = some v) : SlD ds N ((t, v) :: m') a := h.cons (hF.get e)
/-- between two rounds: l holds the records that have come -/
def OpenI (S : Nat → Prop) (w : World) (A : Option Addr) (c : Nat) (L : List (List UInt8)) (gl gB B : Nat) (pre : List (List UInt8)) (W : World) : Prop :=
  ∃ An cn vs, Blk W gl 29 [.int .i64 (L.length : Nat), .slice An pre.length cn, .int .i64 0] ∧ W.ownsRow B 35 1 (.slice An pre.length cn) pre.length vs ∧ RVs B (.slice An pre.length cn) W vs pre ∧
    Blk W gB 22 [.slice A L.length c] ∧ RBss (Clip S w) W (.slice A L.length c) L ∧ Ext w W
theorem OpenI.ext {w : World} {A : Option Addr} {c : Nat} {L : List (List UInt8)} {gl gB B : Nat} {pre : List (List UInt8)} {W W' : World} (h : OpenI S w A c L gl gB B pre W) (hx : Ext W W') : OpenI S w A c L gl gB B pre W' := by
  obtain ⟨An, cn, vs, h1, h2, h3, h4, h5, h6⟩ := h
  exact ⟨An, cn, vs, h1.ext hx, own_ext h2 hx, h3.ext hx, h4.ext hx, h5.ext hx, h6.trans hx⟩
theorem OpenI.loop {w : World} {A : Option Addr} {c : Nat} {L : List (List UInt8)} {gl gB B l : Nat} {pre : List (List UInt8)} {W W' : World} (h : OpenI S w A c L gl gB B pre W) (hg : W.grownBy W' (some l)) (h1 : gl < l) (h2 : gB < l) (h3 : l < B) (h4 : w.heap.size ≤ l) : OpenI S w A c L gl gB B pre W' := by
  obtain ⟨An, cn, vs, k1, k2, k3, k4, k5, k6⟩ := h
  refine ⟨An, cn, vs, k1.grownN hg (by omega), own_grownB k2 hg (fun e => ?_), k3.set hg h3, k4.grownN hg (by omega), ?_, k6.grownN hg h4⟩
  · have := own_ge k2 l e; omega
  · exact k5.keep hg.size fun b hb hlt => hg.block b hlt (fun e => by injection e with e; have := hb.2; omega)
theorem OpenI.h {w : World} {A : Option Addr} {c : Nat} {L : List (List UInt8)} {gl gB B : Nat} {pre : List (List UInt8)} {W : World} (h : OpenI S w A c L gl gB B pre W) : RecH (Clip S w) A c L gB W := by
  obtain ⟨An, cn, vs, k1, k2, k3, k4, k5, k6⟩ := h
  exact ⟨k4, k5⟩
theorem own_loop {w w' : World} {base : Nat} {e : TypeId} {k n l : Nat} {v : Value} {xs : List Value} (h : w.ownsRow base e k v n xs) (hg : w.grownBy w' (some l)) (hl : l < base) : w'.ownsRow base e k v n xs :=
  own_grownB h hg fun e => by have := own_ge h l e; omega

theorem OpenI.step {w : World} {A : Option Addr} {c : Nat} {L : List (List UInt8)} {gl gB B : Nat} {pre : List (List UInt8)} {x : List UInt8} {W : World} {An : Option Addr} {cn n : Nat} {vs : List Value} (hn : n = (pre ++ [x]).length) (h1 : Blk W gl 29 [.int .i64 (L.length : Nat), .slice An n cn, .int .i64 0])
    (h2 : W.ownsRow B 35 1 (.slice An n cn) n vs) (h3 : RVs B (.slice An n cn) W vs (pre ++ [x])) (h4 : Blk W gB 22 [.slice A L.length c]) (h5 : RBss (Clip S w) W (.slice A L.length c) L) (h6 : Ext w W) : OpenI S w A c L gl gB B (pre ++ [x]) W := by
  subst hn
  exact ⟨An, cn, vs, h1, h2, h3, h4, h5, h6⟩
/-- what Open returns -/
def OpenRet (w : World) (d : Dk) (e : Ending) (w' : World) : Prop := ∃ A c, e = .returned (.tuple #[.agg #[.int .i64 (openM d), .slice A (openR d).length c, .int .i64 ((openR d).length : Nat)], .int .i64 (openE d)]) ∧ RBss (fun b => w.heap.size ≤ b) w' (.slice A (openR d).length c) (openR d) ∧ Ext w w'
theorem open_fin {w w' : World} {d : Dk} {n m : Int} {R : List (List UInt8)} {A : Option Addr} {c : Nat} (he : openE d = n) (hm : openM d = m) (hr : openR d = R) (hb : RBss (fun b => w.heap.size ≤ b) w' (.slice A R.length c) R) (hx : Ext w w') :
    OpenRet w d (.returned (.tuple #[.agg #[.int .i64 m, .slice A R.length c, .int .i64 (R.length : Nat)], .int .i64 n])) w' := by
  subst he hm hr
  exact ⟨A, c, rfl, hb, hx⟩
theorem open_err {w w' : World} {d : Dk} {n : Int} (he : openE d = n) (h0 : n ≠ 0) (hx : Ext w w') : OpenRet w d (.returned (.tuple #[.agg #[.int .i64 0, .slice none 0 0, .int .i64 0], .int .i64 n])) w' := by
  obtain ⟨h1, h2⟩ := open_bad he h0
  exact open_fin (R := []) he h2 h1 (RSl.nil _) hx

end Go.Proofs.Ytfmhnplkpohogaa

namespace Go.Proofs.Ytfmhnplkpohogaa
open Go.RowKit

variable {S S' : Nat → Prop}

def sD : Dk := ⟨[List.replicate 128 0], [], -1, false⟩
def sC : Dk := ⟨[encL 1 0 3 [97, 98]], [], -1, false⟩
theorem sane_1 : Dk.new 1 = (sD, 0) := by kernel_rfl
theorem sane_2 : openE sD = 0 ∧ openR sD = [] ∧ openM sD = 1 := ⟨by kernel_rfl, by kernel_rfl, by kernel_rfl⟩
theorem sane_3 : (Lg.mk 1 [] 0).append (List.replicate 113 0) = (Lg.zero, 2) := by kernel_rfl
theorem sane_4 : (Lg.mk 1 [] 0).append [97, 98] = (⟨1, [[97, 98]], 0⟩, 0) := by kernel_rfl
theorem sane_5 : (Lg.mk 1 [[97, 98]] 0).sync sD = (⟨1, [[97, 98]], 1⟩, sC, 0) := by kernel_rfl
theorem sane_6 : openE sC = 0 ∧ openR sC = [[97, 98]] ∧ openM sC = 1 := ⟨by kernel_rfl, by kernel_rfl, by kernel_rfl⟩
theorem sane_7 : (Lg.mk 1 [[97, 98]] 0).sync sC = (Lg.zero, Dk.zero, 390) := by kernel_rfl
theorem sane_8 : (Lg.mk 1 [] 0).room = 112 := by kernel_rfl
theorem sane_9 : (Lg.mk 0 [] 0).check = 1 := by kernel_rfl
/-! contracts at what is known -/
theorem open_conv {P : Program} {f : FuncId} {args : Array Value} {w : World} {d : Dk} {m n : Int} {R : List (List UInt8)} (h : Calls P f args w (OpenRet w d)) (he : openE d = n ∧ openR d = R ∧ openM d = m) : Calls P f args w (fun e w' => ∃ A c, e = .returned (.tuple #[.agg #[.int .i64 m, .slice A R.length c, .int .i64 (R.length : Nat)], .int .i64 n]) ∧ RBss (fun b => w.heap.size ≤ b) w' (.slice A R.length c) R ∧ Ext w w') := by
  obtain ⟨rfl, rfl, rfl⟩ := he
  exact h
theorem app_conv {P : Program} {f : FuncId} {args : Array Value} {w : World} {x : Lg × Int} {m s n : Int} {R : List (List UInt8)} (h : Calls P f args w (LogRet S w x)) (he : x = (⟨m, R, s⟩, n)) : Calls P f args w (fun e w' => ∃ A c, e = .returned (.tuple #[.agg #[.int .i64 m, .slice A R.length c, .int .i64 s], .int .i64 n]) ∧ RBss (Fr S w) w' (.slice A R.length c) R ∧ Ext w w') := by
  subst he
  exact h
theorem sync_conv {P : Program} {f : FuncId} {args : Array Value} {w : World} {x : Lg × Dk × Int} {m s n : Int} {R : List (List UInt8)} {d : Dk} (h : Calls P f args w (SyncRet S w x)) (he : x = (⟨m, R, s⟩, d, n)) : Calls P f args w (fun e w' => ∃ A c v, e = .returned (.tuple #[.agg #[.int .i64 m, .slice A R.length c, .int .i64 s], v, .int .i64 n]) ∧ RBss (Fr S w) w' (.slice A R.length c) R ∧ RDk (Fr S w) w' v d ∧ Ext w w') := by
  subst he
  exact h
/-! records are short -/
theorem mem_used {l : List (List UInt8)} {x : List UInt8} (h : x ∈ l) : secs x.length ≤ usedL l := by
  obtain ⟨a, b, rfl⟩ := List.append_of_mem h
  rw [usedL_app, usedL_cons]; omega
theorem secs_bnd {n k : Nat} (h : secs n ≤ k) : n ≤ 112 * k := by unfold secs at h; omega
/-! logs that hold little -/
theorem left_eq {m s : Int} {R : List (List UInt8)} (hc : (Lg.mk m R s).check = 0) (hu : usedL R < 9223372036854775808) : (Lg.mk m R s).left = m - (usedL R : Nat) ∧ ((usedL R : Nat) : Int) ≤ m ∧ 1 ≤ m ∧ m ≤ 4096 ∧ 0 ≤ s ∧ s ≤ (R.length : Nat) := by
  have hf : 1 ≤ m ∧ m ≤ 4096 ∧ 0 ≤ s ∧ s ≤ (R.length : Nat) ∧ usedW R ≤ m := check_facts hc
  rw [usedW_small hu] at hf
  refine ⟨?_, hf.2.2.2.2, hf.1, hf.2.1, hf.2.2.1, hf.2.2.2.1⟩
  show IntKind.i64.wrap (m - usedW R) = _
  rw [usedW_small hu, wrapI64]; omega
theorem app_fit {m s : Int} {R : List (List UInt8)} {b : List UInt8} (hc : (Lg.mk m R s).check = 0) (hu : usedL R < 9223372036854775808) (hf : ((secs b.length : Nat) : Int) ≤ m - (usedL R : Nat)) : (Lg.mk m R s).append b = (⟨m, R ++ [b], s⟩, 0) :=
  Lg.append_ok hc (by rw [(left_eq hc hu).1]; omega)
theorem app_full {m s : Int} {R : List (List UInt8)} {b : List UInt8} (hc : (Lg.mk m R s).check = 0) (hu : usedL R < 9223372036854775808) (hf : ¬ ((secs b.length : Nat) : Int) ≤ m - (usedL R : Nat)) : (Lg.mk m R s).append b = (Lg.zero, 2) :=
  Lg.append_2 hc (by rw [(left_eq hc hu).1]; omega)
theorem check_eq {m s : Int} {R : List (List UInt8)} (h1 : 1 ≤ m) (h2 : m ≤ 4096) (h3 : 0 ≤ s) (h4 : s ≤ (R.length : Nat)) (h5 : ((usedL R : Nat) : Int) ≤ m) : (Lg.mk m R s).check = 0 :=
  Lg.check_ok m R s (by rw [usedW_small (by omega)]; omega)
end Go.Proofs.Ytfmhnplkpohogaa

namespace Go.Proofs.Ytfmhnplkpohogaa
open Go.RowKit

variable {S S' : Nat → Prop}

theorem clipB_any (A : Option Addr) (n cap : Nat) (w : World) (hn : n ≤ cap) :
  Calls Try.prog 37 #[.slice A n cap] w (fun e w' => e = .returned (.slice A n n) ∧ Ext w w') := by
 go_enter Try.func37, Try.ntmps37
 go_wp2
 go_ret
 exact ⟨rfl, Ext.refl _⟩

set_option maxRecDepth 100000 in
set_option maxHeartbeats 1000000 in
theorem sectors_any (A : Option Addr) (n c : Nat) (w : World) (hn : n ≤ 4611686018427387904) :
  Calls Try.prog 35 #[.slice A n c] w (fun e w' => e = .returned (.int .i64 (secs n : Nat)) ∧ Ext w w') := by
 refine calls_enter (l := [(.slice A n c)]) Try.func35 rfl rfl rfl (fun aA hF => ?_)
 refine wp_seq_k (fun K1 hK1 => ?_)
 refine wp_region_lit ?_
 refine qv 0 (.int .i64 0) hF rfl (rn_assign rfl) fun _ F3 => ?_; clear hF
 refine wpList_nil ?_
 refine hK1 _ _ ?_
 clear hK1
 refine wp_seq_k (fun K4 hK4 => ?_)
 refine wp_region_lit ?_
 refine qv 0 (.slice A n c) F3 rfl (rn_move (F3.get rfl)) fun _ F6 => ?_; clear F3
 refine qv 1 (.int .i64 (n : Nat)) F6 rfl (rn_len_slice Try.underlying35 (F6.get rfl)) fun _ F8 => ?_; clear F6
 refine qv 2 (.int .i64 (n + 112 : Nat)) F8 rfl (rn_addN (a := n) (b := 112) (F8.get rfl) rfl (by omega)) fun _ F10 => ?_; clear F8
 refine qv 3 (.int .i64 ((n + 112) - 1 : Nat)) F10 rfl (rn_subN (a := n + 112) (b := 1) (F10.get rfl) rfl (by omega) (by omega)) fun _ F12 => ?_; clear F10
 refine qv 4 (.int .i64 (((n + 112) - 1) / 112 : Nat)) F12 rfl (rn_quoN (a := (n + 112) - 1) (b := 112) (F12.get rfl) rfl (by omega) (by omega)) fun _ F14 => ?_; clear F12
 refine qv 5 (.int .i64 (max 1 (((n + 112) - 1) / 112) : Nat)) F14 rfl (rn_max2N (a := 1) (b := ((n + 112) - 1) / 112) Try.underlying3 rfl (F14.get rfl)) fun _ F16 => ?_; clear F14
 refine qv 6 (.int .i64 (max 1 (((n + 112) - 1) / 112) : Nat)) F16 rfl (rn_assign (F16.get rfl)) fun _ F18 => ?_; clear F16
 refine wpList_nil ?_
 refine hK4 _ _ ?_
 clear hK4
 have F19 := ((F18.nil.c F18 2 rfl).c F18 0 rfl)
 clear F18
 refine wp_ret ?_
 refine ret1 F19 rfl rfl ?_
 exact ⟨congrArg (fun z : Int => Ending.returned (.int .i64 z)) (show ((max 1 (((n + 112) - 1) / 112) : Nat) : Int) = ((secs n : Nat) : Int) by unfold secs; omega), (Ext.refl w)⟩

set_option maxRecDepth 100000 in
set_option maxHeartbeats 1000000 in
theorem used_any (A : Option Addr) (c : Nat) (R : List (List UInt8)) (w : World) (hn : RBss S w (.slice A R.length c) R) (hb : ∀ x ∈ R, x.length ≤ 140737488355328) :
  Calls Try.prog 36 #[.slice A R.length c] w (fun e w' => e = .returned (.int .i64 (usedW R)) ∧ Ext w w') := by
 have hnc := RBss.clip hn
 obtain ⟨-, hcR1, hcR2⟩ := RBss.at hn
 refine calls_enter (l := [(.slice A R.length c)]) Try.func36 rfl rfl rfl (fun aA hF => ?_)
 refine wp_seq_k (fun K1 hK1 => ?_)
 refine wp_region_lit ?_
 refine qv 0 (.int .i64 0) hF rfl (rn_assign rfl) fun _ F3 => ?_; clear hF
 refine wpList_nil ?_
 refine hK1 _ _ ?_
 clear hK1
 refine wp_seq_k (fun K4 hK4 => ?_)
 refine wp_seq_k (fun K5 hK5 => ?_)
 refine wp_region_lit ?_
 refine qv 0 (.slice A R.length c) F3 rfl (rn_move (F3.get rfl)) fun _ F7 => ?_; clear F3
 refine qv 1 (.int .i64 (R.length : Nat)) F7 rfl (rn_len_slice Try.underlying22 (F7.get rfl)) fun _ F9 => ?_; clear F7
 refine qv 2 (.int .i64 0) F9 rfl (rn_move rfl) fun _ F11 => ?_; clear F9
 refine wpList_nil ?_
 refine hK5 _ _ ?_
 clear hK5
 refine wp_block ?_
 refine wp_loop (fun a' W => ∃ (k : Nat) (u : Int), Sl 17 [(0, (.slice A R.length c)), (2, (.int .i64 u)), (5, (.slice A R.length c)), (6, (.int .i64 (R.length : Nat))), (7, (.int .i64 (k : Nat)))] a' ∧ k ≤ R.length ∧ u = usedW (R.take k) ∧ Ext w W ∧ w.heap.size ≤ W.heap.size) (fun a' _ => R.length - (intOf (a'.eval (.tmp 7))).toNat) ⟨0, 0, (((((F11.nil.cons (q_get F11 (t := 7) rfl (by first | rfl | (congr 1; omega) | (congr 1; done)))).cons (q_get F11 (t := 6) rfl rfl)).cons (q_get F11 (t := 5) rfl rfl)).cons (q_get F11 (t := 2) rfl (by first | rfl | (congr 1; omega) | (congr 1; done)))).cons (q_get F11 (t := 0) rfl rfl)), (by omega), rfl, (Ext.refl w), (Nat.le_refl _)⟩ ?_
 clear F11
 rintro a12 w13 ⟨k, u, F14, hp16, hp17, hx15, hf18⟩
 have hL19 := F14
 have z20 := hx15.size
 refine wp_seq_k (fun K21 hK21 => ?_)
 refine wp_region_lit ?_
 refine qv 0 (.bool (decide (((k : Nat) : Int) < ((R.length : Nat) : Int)))) F14 rfl (rn_lss (F14.get rfl) (F14.get rfl)) fun _ F23 => ?_; clear F14
 refine wpList_nil ?_
 refine hK21 _ _ ?_
 clear hK21
 refine wp_seq_k (fun K24 hK24 => ?_)
 by_cases hc25 : ((k : Nat) : Int) < ((R.length : Nat) : Int)
 ·skip
  refine wp_cond_true (c_true F23 rfl (decide_eq_true hc25)) ?_
  refine wp_skip ?_
  refine hK24 _ _ ?_
  clear hK24
  refine wp_seq_k (fun K26 hK26 => ?_)
  refine wp_block ?_
  refine wp_seq_k (fun K27 hK27 => ?_)
  refine wp_region_lit ?_
  have d41 := (hnc.ext hx15)
  obtain ⟨x28, hi29, hm30⟩ := nth_of_lt R k (by omega)
  obtain ⟨b31, o32, A33, c34, hA35, hl36, hc37, hr38, le39, le40⟩ := RBss.get d41 hi29
  have z42 := hb x28 (List.mem_of_getElem? hi29)
  refine qv 0 (.pointer (some ⟨b31, o32 + k, none⟩)) F23 rfl (rn_index1 Try.underlying22 inf35 ((F23.get rfl).trans (by rw [hA35])) (F23.get rfl) (by omega : (0 : Int) ≤ (k : Nat)) (by omega : ((k : Nat) : Int) < ((R.length : Nat) : Int))) fun _ F44 => ?_; clear F23
  refine qv 1 (.slice A33 x28.length c34) F44 rfl (rn_load (isAgg_no Try.underlying35 rfl) (F44.get rfl) (Ext.keep (Ext.refl w13) hc37)) fun _ F46 => ?_; clear F44
  refine qv 2 (.slice A33 x28.length c34) F46 rfl (rn_assign (F46.get rfl)) fun _ F48 => ?_; clear F46
  refine wpList_nil ?_
  refine hK27 _ _ ?_
  clear hK27
  refine wp_region_lit ?_
  refine qv 0 (.int .i64 u) F48 rfl (rn_move (F48.get rfl)) fun _ F50 => ?_; clear F48
  refine qv 1 (.slice A33 x28.length c34) F50 rfl (rn_move (F50.get rfl)) fun _ F52 => ?_; clear F50
  refine wpl_op (i := 2) rfl (o_call F52 rfl rfl rfl rfl (rn_call (args1 (F52.get rfl)) rfl (by kernel_rfl)) (sectors_any A33 x28.length c34 _ (by omega)) ?_)
  rintro _ w53 ⟨rfl, hx54⟩
  refine ⟨_, rfl, ?_⟩; intro a55 F56; clear F52; have z57 := hx54.size
  refine qv 3 (.int .i64 (wrapI (u + (secs x28.length : Nat)))) F56 rfl (addW_ok (k := .i64) (F56.get rfl) (F56.get rfl)) fun _ F59 => ?_; clear F56
  refine qv 4 (.int .i64 (wrapI (u + (secs x28.length : Nat)))) F59 rfl (rn_assign (F59.get rfl)) fun _ F61 => ?_; clear F59
  refine wpList_nil ?_
  refine hK26 _ _ ?_
  clear hK26
  have F62 := (((((((F61.nil.c F61 4 rfl).c F61 8 rfl).c F61 7 rfl).c F61 6 rfl).c F61 5 rfl).c F61 2 rfl).c F61 0 rfl)
  clear F61
  refine wp_region_lit ?_
  refine qv 0 (.int .i64 (k + 1 : Nat)) F62 rfl (rn_addN (a := k) (b := 1) (F62.get rfl) rfl (by omega)) fun _ F64 => ?_; clear F62
  refine qv 1 (.int .i64 (k + 1 : Nat)) F64 rfl (rn_move (F64.get rfl)) fun _ F66 => ?_; clear F64
  refine wpList_nil ?_
  refine ⟨⟨(k + 1), (wrapI (u + (secs x28.length : Nat))), (((((F66.nil.cons (q_get F66 (t := 7) rfl (by first | rfl | (congr 1; omega) | (congr 1; done)))).cons (q_get F66 (t := 6) rfl rfl)).cons (q_get F66 (t := 5) rfl rfl)).cons (q_get F66 (t := 2) rfl (by first | rfl | (congr 1; omega) | (congr 1; done)))).cons (q_get F66 (t := 0) rfl rfl)), (by omega), (by rw [usedW_take hi29, ← hp17]), (((Ext.refl w).trans hx15).trans hx54), (by omega)⟩, ?_⟩
  rw [F66.get (t := 7) rfl, hL19.get (t := 7) rfl]; simp [intOf] <;> omega
 ·skip
  refine wp_cond_false (c_false F23 rfl (decide_eq_false hc25)) ?_
  refine wp_exit ?_
  refine exit_then ?_
  refine exit_then ?_
  refine exit_here ?_
  refine hK4 _ _ ?_
  clear hK4
  refine wp_seq_k (fun K67 hK67 => ?_)
  refine wp_region_lit ?_
  refine qv 0 (.int .i64 u) F23 rfl (rn_move (F23.get rfl)) fun _ F69 => ?_; clear F23
  refine qv 1 (.int .i64 u) F69 rfl (rn_assign (F69.get rfl)) fun _ F71 => ?_; clear F69
  refine wpList_nil ?_
  refine hK67 _ _ ?_
  clear hK67
  refine wp_ret ?_
  refine ret1 F71 rfl rfl ?_
  have hk : k = R.length := by omega
  have hu2 := hp17
  rw [hk, List.take_length] at hu2
  exact ⟨by rw [hu2], ((Ext.refl w).trans hx15)⟩

theorem used_at {v : Value} (R : List (List UInt8)) (w : World) (hn : RBss S w v R) (hb : ∀ x ∈ R, x.length ≤ 140737488355328) :
  Calls Try.prog 36 #[v] w (fun e w' => e = .returned (.int .i64 (usedW R)) ∧ Ext w w') := by
 obtain ⟨A, c, rfl, _⟩ := hn.form
 exact used_any A c R w hn hb

set_option maxRecDepth 100000 in
set_option maxHeartbeats 1000000 in
theorem chk_any (m : Int) (A : Option Addr) (c : Nat) (R : List (List UInt8)) (s : Int) (w : World) (hn : RBss S w (.slice A R.length c) R) (hb : ∀ x ∈ R, x.length ≤ 140737488355328) :
  Calls Try.prog 17 #[.agg #[.int .i64 m, .slice A R.length c, .int .i64 s]] w (fun e w' => e = .returned (.int .i64 (Lg.mk m R s).check) ∧ Ext w w') := by
 have hnc := RBss.clip hn
 obtain ⟨-, hcR1, hcR2⟩ := RBss.at hn
 refine calls_enter (l := [(.agg #[(.int .i64 m), (.slice A R.length c), (.int .i64 s)])]) Try.func17 rfl rfl rfl (fun aA hF => ?_)
 refine wp_seq_k (fun K1 hK1 => ?_)
 refine wp_region_lit ?_
 refine wpl_op (i := 0) rfl (o_new (fun g => (.pointer (some ⟨g, 0, none⟩))) [(.int .i64 m), (.slice A R.length c), (.int .i64 s)] 29 hF rfl rfl rfl rfl (rn_box (hF.get rfl) (by kernel_rfl)) ?_)
 intro g2 w3 a8 F9 z6 z7 b4 hx5; clear hF
 refine qv 1 (.int .i64 0) F9 rfl (rn_assign rfl) fun _ F11 => ?_; clear F9
 refine wpList_nil ?_
 refine hK1 _ _ ?_
 clear hK1
 refine wp_seq_k (fun K12 hK12 => ?_)
 refine wp_seq_k (fun K13 hK13 => ?_)
 have hx15 : ∃ W, w3.drew = W ∧ Ext w3 W := ⟨_, rfl, (Ext.refl _).drew⟩
 obtain ⟨w14, e16, hx15⟩ := hx15
 have z17 := hx15.size
 refine any_start (fun W => Ext w14 W ∧ Blk W g2 29 [(.int .i64 m), (.slice A R.length c), (.int .i64 s)]) (fun i => false) 29 #[false, false, false, false, false, false, false, false, false, false, false, false, false, false, false, false, false, false, false, false, false, false, false, false, false, false, false, false, false] rfl rfl rfl ?_
 rw [e16]; clear e16
 refine qp 0 (.pointer (some ⟨g2, 0, none⟩)) F11 rfl rfl (fun W => (rn_field Try.underlying29 rfl (by kernel_rfl) (F11.get rfl) rfl)) fun _ F19 => ?_; clear F11
 have b21 := (b4.ext hx15)
 have hS20 : Ext w14 w14 ∧ Blk w14 g2 29 [(.int .i64 m), (.slice A R.length c), (.int .i64 s)] := ⟨(Ext.refl w14), b21⟩
 refine qs 1 (.int .i64 m) F19 rfl rfl hS20 (fun W hW => (rn_load (isAgg_no Try.underlying3 rfl) (F19.get rfl) (hW.2.rule.1 0))) fun _ F23 => ?_; clear F19
 refine qp 2 (.bool (decide ((m : Int) < (1 : Int)))) F23 rfl rfl (fun W => (rn_lss (F23.get rfl) rfl)) fun _ F25 => ?_; clear F23
 refine qp 3 (.bool (decide ((m : Int) < (1 : Int)))) F25 rfl rfl (fun W => (rn_move (F25.get rfl))) fun _ F27 => ?_; clear F25
 by_cases hc28 : (m : Int) < (1 : Int)
 ·skip
  refine qk 4 F27 rfl (decide_eq_true hc28) fun _ F30 => ?_; clear F27
  refine qk 5 F30 rfl (decide_eq_true hc28) fun _ F32 => ?_; clear F30
  refine qk 6 F32 rfl (decide_eq_true hc28) fun _ F34 => ?_; clear F32
  refine qp 7 (.bool true) F34 rfl rfl (fun W => (rn_pickT (c_true F34 rfl (decide_eq_true hc28)) rfl)) fun _ F36 => ?_; clear F34
  refine qp 8 (.bool true) F36 rfl rfl (fun W => (rn_move (F36.get rfl))) fun _ F38 => ?_; clear F36
  refine qk 9 F38 rfl rfl fun _ F40 => ?_; clear F38
  refine qk 10 F40 rfl rfl fun _ F42 => ?_; clear F40
  refine qk 11 F42 rfl rfl fun _ F44 => ?_; clear F42
  refine qp 12 (.bool true) F44 rfl rfl (fun W => (rn_pickT (c_true F44 rfl rfl) rfl)) fun _ F46 => ?_; clear F44
  refine qp 13 (.bool true) F46 rfl rfl (fun W => (rn_move (F46.get rfl))) fun _ F48 => ?_; clear F46
  refine qk 14 F48 rfl rfl fun _ F50 => ?_; clear F48
  refine qk 15 F50 rfl rfl fun _ F52 => ?_; clear F50
  refine qk 16 F52 rfl rfl fun _ F54 => ?_; clear F52
  refine qk 17 F54 rfl rfl fun _ F56 => ?_; clear F54
  refine qk 18 F56 rfl rfl fun _ F58 => ?_; clear F56
  refine qk 19 F58 rfl rfl fun _ F60 => ?_; clear F58
  refine qp 20 (.bool true) F60 rfl rfl (fun W => (rn_pickT (c_true F60 rfl rfl) rfl)) fun _ F62 => ?_; clear F60
  refine qp 21 (.bool true) F62 rfl rfl (fun W => (rn_move (F62.get rfl))) fun _ F64 => ?_; clear F62
  refine qk 22 F64 rfl rfl fun _ F66 => ?_; clear F64
  refine qk 23 F66 rfl rfl fun _ F68 => ?_; clear F66
  refine qk 25 F68 rfl rfl fun _ F70 => ?_; clear F68
  refine qk 26 F70 rfl rfl fun _ F72 => ?_; clear F70
  refine any_one (i := 24) (by decide +kernel) rfl ?_
  refine o_skip F72 rfl (unwanted_guard rfl rfl rfl F72 rfl rfl rfl) rfl rfl ?_
  intro a73 F74; clear F72
  refine ⟨fun _ _ => ⟨(Ext.refl w14), b21⟩, ?_⟩
  refine qk 27 F74 rfl rfl fun _ F76 => ?_; clear F74
  refine qp 28 (.bool true) F76 rfl rfl (fun W => (rn_pickT (c_true F76 rfl rfl) rfl)) fun _ F78 => ?_; clear F76
  refine any_nil (by decide +kernel) ?_
  refine hK13 _ _ ?_
  clear hK13
  have F79 := ((((F78.nil.c F78 31 rfl).c F78 2 rfl).c F78 1 rfl).c F78 0 rfl)
  clear F78
  refine wp_cond_true (c_true F79 rfl rfl) ?_
  refine wp_seq_k (fun K80 hK80 => ?_)
  refine wp_region_lit ?_
  refine qv 0 (.int .i64 1) F79 rfl (rn_assign rfl) fun _ F82 => ?_; clear F79
  refine wpList_nil ?_
  refine hK80 _ _ ?_
  clear hK80
  refine wp_ret ?_
  refine ret_then ?_
  refine ret1 F82 rfl rfl ?_
  exact ⟨by rw [Lg.check_bad m R s (by omega)], (((Ext.refl w).trans hx5).trans hx15)⟩
 ·skip
  refine qp 4 (.pointer (some ⟨g2, 0, none⟩)) F27 rfl (wanted_guard rfl rfl rfl F27 rfl (decide_eq_false hc28) rfl) (fun W => (rn_field Try.underlying29 rfl (by kernel_rfl) (F27.get rfl) rfl)) fun _ F84 => ?_; clear F27
  refine qs 5 (.int .i64 m) F84 rfl (wanted_guard rfl rfl rfl F84 rfl (decide_eq_false hc28) rfl) hS20 (fun W hW => (rn_load (isAgg_no Try.underlying3 rfl) (F84.get rfl) (hW.2.rule.1 0))) fun _ F86 => ?_; clear F84
  refine qp 6 (.bool (decide ((4096 : Int) < (m : Int)))) F86 rfl (wanted_guard rfl rfl rfl F86 rfl (decide_eq_false hc28) rfl) (fun W => (rn_gtr (F86.get rfl) rfl)) fun _ F88 => ?_; clear F86
  refine qp 7 (.bool (decide ((4096 : Int) < (m : Int)))) F88 rfl rfl (fun W => (rn_pickF (c_false F88 rfl (decide_eq_false hc28)) (F88.get rfl))) fun _ F90 => ?_; clear F88
  refine qp 8 (.bool (decide ((4096 : Int) < (m : Int)))) F90 rfl rfl (fun W => (rn_move (F90.get rfl))) fun _ F92 => ?_; clear F90
  by_cases hc93 : (4096 : Int) < (m : Int)
  ·skip
   refine qk 9 F92 rfl (decide_eq_true hc93) fun _ F95 => ?_; clear F92
   refine qk 10 F95 rfl (decide_eq_true hc93) fun _ F97 => ?_; clear F95
   refine qk 11 F97 rfl (decide_eq_true hc93) fun _ F99 => ?_; clear F97
   refine qp 12 (.bool true) F99 rfl rfl (fun W => (rn_pickT (c_true F99 rfl (decide_eq_true hc93)) rfl)) fun _ F101 => ?_; clear F99
   refine qp 13 (.bool true) F101 rfl rfl (fun W => (rn_move (F101.get rfl))) fun _ F103 => ?_; clear F101
   refine qk 14 F103 rfl rfl fun _ F105 => ?_; clear F103
   refine qk 15 F105 rfl rfl fun _ F107 => ?_; clear F105
   refine qk 16 F107 rfl rfl fun _ F109 => ?_; clear F107
   refine qk 17 F109 rfl rfl fun _ F111 => ?_; clear F109
   refine qk 18 F111 rfl rfl fun _ F113 => ?_; clear F111
   refine qk 19 F113 rfl rfl fun _ F115 => ?_; clear F113
   refine qp 20 (.bool true) F115 rfl rfl (fun W => (rn_pickT (c_true F115 rfl rfl) rfl)) fun _ F117 => ?_; clear F115
   refine qp 21 (.bool true) F117 rfl rfl (fun W => (rn_move (F117.get rfl))) fun _ F119 => ?_; clear F117
   refine qk 22 F119 rfl rfl fun _ F121 => ?_; clear F119
   refine qk 23 F121 rfl rfl fun _ F123 => ?_; clear F121
   refine qk 25 F123 rfl rfl fun _ F125 => ?_; clear F123
   refine qk 26 F125 rfl rfl fun _ F127 => ?_; clear F125
   refine any_one (i := 24) (by decide +kernel) rfl ?_
   refine o_skip F127 rfl (unwanted_guard rfl rfl rfl F127 rfl rfl rfl) rfl rfl ?_
   intro a128 F129; clear F127
   refine ⟨fun _ _ => ⟨(Ext.refl w14), b21⟩, ?_⟩
   refine qk 27 F129 rfl rfl fun _ F131 => ?_; clear F129
   refine qp 28 (.bool true) F131 rfl rfl (fun W => (rn_pickT (c_true F131 rfl rfl) rfl)) fun _ F133 => ?_; clear F131
   refine any_nil (by decide +kernel) ?_
   refine hK13 _ _ ?_
   clear hK13
   have F134 := ((((F133.nil.c F133 31 rfl).c F133 2 rfl).c F133 1 rfl).c F133 0 rfl)
   clear F133
   refine wp_cond_true (c_true F134 rfl rfl) ?_
   refine wp_seq_k (fun K135 hK135 => ?_)
   refine wp_region_lit ?_
   refine qv 0 (.int .i64 1) F134 rfl (rn_assign rfl) fun _ F137 => ?_; clear F134
   refine wpList_nil ?_
   refine hK135 _ _ ?_
   clear hK135
   refine wp_ret ?_
   refine ret_then ?_
   refine ret1 F137 rfl rfl ?_
   exact ⟨by rw [Lg.check_bad m R s (by omega)], (((Ext.refl w).trans hx5).trans hx15)⟩
  ·skip
   refine qp 9 (.pointer (some ⟨g2, 2, none⟩)) F92 rfl (wanted_guard rfl rfl rfl F92 rfl (decide_eq_false hc93) rfl) (fun W => (rn_field Try.underlying29 rfl (by kernel_rfl) (F92.get rfl) rfl)) fun _ F139 => ?_; clear F92
   refine qs 10 (.int .i64 s) F139 rfl (wanted_guard rfl rfl rfl F139 rfl (decide_eq_false hc93) rfl) hS20 (fun W hW => (rn_load (isAgg_no Try.underlying3 rfl) (F139.get rfl) (hW.2.rule.1 2))) fun _ F141 => ?_; clear F139
   refine qp 11 (.bool (decide ((s : Int) < (0 : Int)))) F141 rfl (wanted_guard rfl rfl rfl F141 rfl (decide_eq_false hc93) rfl) (fun W => (rn_lss (F141.get rfl) rfl)) fun _ F143 => ?_; clear F141
   refine qp 12 (.bool (decide ((s : Int) < (0 : Int)))) F143 rfl rfl (fun W => (rn_pickF (c_false F143 rfl (decide_eq_false hc93)) (F143.get rfl))) fun _ F145 => ?_; clear F143
   refine qp 13 (.bool (decide ((s : Int) < (0 : Int)))) F145 rfl rfl (fun W => (rn_move (F145.get rfl))) fun _ F147 => ?_; clear F145
   by_cases hc148 : (s : Int) < (0 : Int)
   ·skip
    refine qk 14 F147 rfl (decide_eq_true hc148) fun _ F150 => ?_; clear F147
    refine qk 15 F150 rfl (decide_eq_true hc148) fun _ F152 => ?_; clear F150
    refine qk 16 F152 rfl (decide_eq_true hc148) fun _ F154 => ?_; clear F152
    refine qk 17 F154 rfl (decide_eq_true hc148) fun _ F156 => ?_; clear F154
    refine qk 18 F156 rfl (decide_eq_true hc148) fun _ F158 => ?_; clear F156
    refine qk 19 F158 rfl (decide_eq_true hc148) fun _ F160 => ?_; clear F158
    refine qp 20 (.bool true) F160 rfl rfl (fun W => (rn_pickT (c_true F160 rfl (decide_eq_true hc148)) rfl)) fun _ F162 => ?_; clear F160
    refine qp 21 (.bool true) F162 rfl rfl (fun W => (rn_move (F162.get rfl))) fun _ F164 => ?_; clear F162
    refine qk 22 F164 rfl rfl fun _ F166 => ?_; clear F164
    refine qk 23 F166 rfl rfl fun _ F168 => ?_; clear F166
    refine qk 25 F168 rfl rfl fun _ F170 => ?_; clear F168
    refine qk 26 F170 rfl rfl fun _ F172 => ?_; clear F170
    refine any_one (i := 24) (by decide +kernel) rfl ?_
    refine o_skip F172 rfl (unwanted_guard rfl rfl rfl F172 rfl rfl rfl) rfl rfl ?_
    intro a173 F174; clear F172
    refine ⟨fun _ _ => ⟨(Ext.refl w14), b21⟩, ?_⟩
    refine qk 27 F174 rfl rfl fun _ F176 => ?_; clear F174
    refine qp 28 (.bool true) F176 rfl rfl (fun W => (rn_pickT (c_true F176 rfl rfl) rfl)) fun _ F178 => ?_; clear F176
    refine any_nil (by decide +kernel) ?_
    refine hK13 _ _ ?_
    clear hK13
    have F179 := ((((F178.nil.c F178 31 rfl).c F178 2 rfl).c F178 1 rfl).c F178 0 rfl)
    clear F178
    refine wp_cond_true (c_true F179 rfl rfl) ?_
    refine wp_seq_k (fun K180 hK180 => ?_)
    refine wp_region_lit ?_
    refine qv 0 (.int .i64 1) F179 rfl (rn_assign rfl) fun _ F182 => ?_; clear F179
    refine wpList_nil ?_
    refine hK180 _ _ ?_
    clear hK180
    refine wp_ret ?_
    refine ret_then ?_
    refine ret1 F182 rfl rfl ?_
    exact ⟨by rw [Lg.check_bad m R s (by omega)], (((Ext.refl w).trans hx5).trans hx15)⟩
   ·skip
    refine qp 14 (.pointer (some ⟨g2, 2, none⟩)) F147 rfl (wanted_guard rfl rfl rfl F147 rfl (decide_eq_false hc148) rfl) (fun W => (rn_field Try.underlying29 rfl (by kernel_rfl) (F147.get rfl) rfl)) fun _ F184 => ?_; clear F147
    refine qs 15 (.int .i64 s) F184 rfl (wanted_guard rfl rfl rfl F184 rfl (decide_eq_false hc148) rfl) hS20 (fun W hW => (rn_load (isAgg_no Try.underlying3 rfl) (F184.get rfl) (hW.2.rule.1 2))) fun _ F186 => ?_; clear F184
    refine qp 16 (.pointer (some ⟨g2, 1, none⟩)) F186 rfl (wanted_guard rfl rfl rfl F186 rfl (decide_eq_false hc148) rfl) (fun W => (rn_field Try.underlying29 rfl (by kernel_rfl) (F186.get rfl) rfl)) fun _ F188 => ?_; clear F186
    refine qs 17 (.slice A R.length c) F188 rfl (wanted_guard rfl rfl rfl F188 rfl (decide_eq_false hc148) rfl) hS20 (fun W hW => (rn_load (isAgg_no Try.underlying22 rfl) (F188.get rfl) (hW.2.rule.1 1))) fun _ F190 => ?_; clear F188
    refine qp 18 (.int .i64 (R.length : Nat)) F190 rfl (wanted_guard rfl rfl rfl F190 rfl (decide_eq_false hc148) rfl) (fun W => (rn_len_slice Try.underlying22 (F190.get rfl))) fun _ F192 => ?_; clear F190
    refine qp 19 (.bool (decide (((R.length : Nat) : Int) < (s : Int)))) F192 rfl (wanted_guard rfl rfl rfl F192 rfl (decide_eq_false hc148) rfl) (fun W => (rn_gtr (F192.get rfl) (F192.get rfl))) fun _ F194 => ?_; clear F192
    refine qp 20 (.bool (decide (((R.length : Nat) : Int) < (s : Int)))) F194 rfl rfl (fun W => (rn_pickF (c_false F194 rfl (decide_eq_false hc148)) (F194.get rfl))) fun _ F196 => ?_; clear F194
    refine qp 21 (.bool (decide (((R.length : Nat) : Int) < (s : Int)))) F196 rfl rfl (fun W => (rn_move (F196.get rfl))) fun _ F198 => ?_; clear F196
    by_cases hc199 : ((R.length : Nat) : Int) < (s : Int)
    ·skip
     refine qk 22 F198 rfl (decide_eq_true hc199) fun _ F201 => ?_; clear F198
     refine qk 23 F201 rfl (decide_eq_true hc199) fun _ F203 => ?_; clear F201
     refine qk 25 F203 rfl (decide_eq_true hc199) fun _ F205 => ?_; clear F203
     refine qk 26 F205 rfl (decide_eq_true hc199) fun _ F207 => ?_; clear F205
     refine any_one (i := 24) (by decide +kernel) rfl ?_
     refine o_skip F207 rfl (unwanted_guard rfl rfl rfl F207 rfl (decide_eq_true hc199) rfl) rfl rfl ?_
     intro a208 F209; clear F207
     refine ⟨fun _ _ => ⟨(Ext.refl w14), b21⟩, ?_⟩
     refine qk 27 F209 rfl (decide_eq_true hc199) fun _ F211 => ?_; clear F209
     refine qp 28 (.bool true) F211 rfl rfl (fun W => (rn_pickT (c_true F211 rfl (decide_eq_true hc199)) rfl)) fun _ F213 => ?_; clear F211
     refine any_nil (by decide +kernel) ?_
     refine hK13 _ _ ?_
     clear hK13
     have F214 := ((((F213.nil.c F213 31 rfl).c F213 2 rfl).c F213 1 rfl).c F213 0 rfl)
     clear F213
     refine wp_cond_true (c_true F214 rfl rfl) ?_
     refine wp_seq_k (fun K215 hK215 => ?_)
     refine wp_region_lit ?_
     refine qv 0 (.int .i64 1) F214 rfl (rn_assign rfl) fun _ F217 => ?_; clear F214
     refine wpList_nil ?_
     refine hK215 _ _ ?_
     clear hK215
     refine wp_ret ?_
     refine ret_then ?_
     refine ret1 F217 rfl rfl ?_
     exact ⟨by rw [Lg.check_bad m R s (by omega)], (((Ext.refl w).trans hx5).trans hx15)⟩
    ·skip
     refine qp 22 (.pointer (some ⟨g2, 1, none⟩)) F198 rfl (wanted_guard rfl rfl rfl F198 rfl (decide_eq_false hc199) rfl) (fun W => (rn_field Try.underlying29 rfl (by kernel_rfl) (F198.get rfl) rfl)) fun _ F219 => ?_; clear F198
     refine qs 23 (.slice A R.length c) F219 rfl (wanted_guard rfl rfl rfl F219 rfl (decide_eq_false hc199) rfl) hS20 (fun W hW => (rn_load (isAgg_no Try.underlying22 rfl) (F219.get rfl) (hW.2.rule.1 1))) fun _ F221 => ?_; clear F219
     refine qp 25 (.pointer (some ⟨g2, 0, none⟩)) F221 rfl (wanted_guard rfl rfl rfl F221 rfl (decide_eq_false hc199) rfl) (fun W => (rn_field Try.underlying29 rfl (by kernel_rfl) (F221.get rfl) rfl)) fun _ F223 => ?_; clear F221
     refine qs 26 (.int .i64 m) F223 rfl (wanted_guard rfl rfl rfl F223 rfl (decide_eq_false hc199) rfl) hS20 (fun W hW => (rn_load (isAgg_no Try.underlying3 rfl) (F223.get rfl) (hW.2.rule.1 0))) fun _ F225 => ?_; clear F223
     refine any_one (i := 24) (by decide +kernel) rfl ?_
     have d226 := ((hnc.ext hx5).ext hx15)
     refine o_call F225 rfl (wanted_guard rfl rfl rfl F225 rfl (decide_eq_false hc199) rfl) rfl rfl (rn_call (args1 (F225.get rfl)) rfl (by kernel_rfl)) (used_at (v := (.slice A R.length c)) R _ d226 hb) ?_
     rintro _ w227 ⟨rfl, hx228⟩
     refine ⟨_, rfl, ?_⟩; intro a229 F230; clear F225; have z231 := hx228.size
     have b232 := (b21.ext hx228)
     refine ⟨fun _ _ => ⟨((Ext.refl w14).trans hx228), b232⟩, ?_⟩
     refine qp 27 (.bool (decide ((m : Int) < ((usedW R) : Int)))) F230 rfl (wanted_guard rfl rfl rfl F230 rfl (decide_eq_false hc199) rfl) (fun W => (rn_gtr (F230.get rfl) (F230.get rfl))) fun _ F234 => ?_; clear F230
     refine qp 28 (.bool (decide ((m : Int) < ((usedW R) : Int)))) F234 rfl rfl (fun W => (rn_pickF (c_false F234 rfl (decide_eq_false hc199)) (F234.get rfl))) fun _ F236 => ?_; clear F234
     refine any_nil (by decide +kernel) ?_
     refine hK13 _ _ ?_
     clear hK13
     have F237 := ((((F236.nil.c F236 31 rfl).c F236 2 rfl).c F236 1 rfl).c F236 0 rfl)
     clear F236
     by_cases hc238 : (m : Int) < ((usedW R) : Int)
     ·skip
      refine wp_cond_true (c_true F237 rfl (decide_eq_true hc238)) ?_
      refine wp_seq_k (fun K239 hK239 => ?_)
      refine wp_region_lit ?_
      refine qv 0 (.int .i64 1) F237 rfl (rn_assign rfl) fun _ F241 => ?_; clear F237
      refine wpList_nil ?_
      refine hK239 _ _ ?_
      clear hK239
      refine wp_ret ?_
      refine ret_then ?_
      refine ret1 F241 rfl rfl ?_
      exact ⟨by rw [Lg.check_bad m R s (by omega)], ((((Ext.refl w).trans hx5).trans hx15).trans hx228)⟩
     ·skip
      refine wp_cond_false (c_false F237 rfl (decide_eq_false hc238)) ?_
      refine wp_skip ?_
      refine hK12 _ _ ?_
      clear hK12
      refine wp_seq_k (fun K242 hK242 => ?_)
      refine wp_region_lit ?_
      refine qv 0 (.int .i64 0) F237 rfl (rn_assign rfl) fun _ F244 => ?_; clear F237
      refine wpList_nil ?_
      refine hK242 _ _ ?_
      clear hK242
      refine wp_ret ?_
      refine ret1 F244 rfl rfl ?_
      exact ⟨by rw [Lg.check_ok m R s (by omega)], ((((Ext.refl w).trans hx5).trans hx15).trans hx228)⟩

theorem chk_at {v : Value} (m : Int) (R : List (List UInt8)) (s : Int) (w : World) (hn : RBss S w v R) (hb : ∀ x ∈ R, x.length ≤ 140737488355328) :
  Calls Try.prog 17 #[.agg #[.int .i64 m, v, .int .i64 s]] w (fun e w' => e = .returned (.int .i64 (Lg.mk m R s).check) ∧ Ext w w') := by
 obtain ⟨A, c, rfl, _⟩ := hn.form
 exact chk_any m A c R s w hn hb

set_option maxRecDepth 100000 in
set_option maxHeartbeats 1000000 in
theorem room_any (m : Int) (A : Option Addr) (c : Nat) (R : List (List UInt8)) (s : Int) (w : World) (hn : RBss S w (.slice A R.length c) R) (hb : ∀ x ∈ R, x.length ≤ 140737488355328) :
  Calls Try.prog 19 #[.agg #[.int .i64 m, .slice A R.length c, .int .i64 s]] w (fun e w' => e = .returned (.int .i64 (Lg.mk m R s).room) ∧ Ext w w') := by
 have hnc := RBss.clip hn
 obtain ⟨-, hcR1, hcR2⟩ := RBss.at hn
 refine calls_enter (l := [(.agg #[(.int .i64 m), (.slice A R.length c), (.int .i64 s)])]) Try.func19 rfl rfl rfl (fun aA hF => ?_)
 refine wp_seq_k (fun K1 hK1 => ?_)
 refine wp_region_lit ?_
 refine wpl_op (i := 0) rfl (o_new (fun g => (.pointer (some ⟨g, 0, none⟩))) [(.int .i64 m), (.slice A R.length c), (.int .i64 s)] 29 hF rfl rfl rfl rfl (rn_box (hF.get rfl) (by kernel_rfl)) ?_)
 intro g2 w3 a8 F9 z6 z7 b4 hx5; clear hF
 refine qv 1 (.int .i64 0) F9 rfl (rn_assign rfl) fun _ F11 => ?_; clear F9
 refine wpList_nil ?_
 refine hK1 _ _ ?_
 clear hK1
 refine wp_seq_k (fun K12 hK12 => ?_)
 refine wp_seq_k (fun K13 hK13 => ?_)
 refine wp_region_lit ?_
 refine qv 0 (.agg #[(.int .i64 m), (.slice A R.length c), (.int .i64 s)]) F11 rfl (rn_loadBlk (F11.get rfl) b4 Try.underlying29 rfl inf29) fun _ F15 => ?_; clear F11
 have d16 := (hnc.ext hx5)
 refine wpl_op (i := 1) rfl (o_call F15 rfl rfl rfl rfl (rn_call (args1 (F15.get rfl)) rfl (by kernel_rfl)) (chk_at (v := (.slice A R.length c)) m R s _ d16 hb) ?_)
 rintro _ w17 ⟨rfl, hx18⟩
 refine ⟨_, rfl, ?_⟩; intro a19 F20; clear F15; have z21 := hx18.size
 refine qv 2 (.bool (decide (((Lg.mk m R s).check : Int) ≠ (0 : Int)))) F20 rfl (rn_neq (F20.get rfl) rfl) fun _ F23 => ?_; clear F20
 refine wpList_nil ?_
 refine hK13 _ _ ?_
 clear hK13
 by_cases hc24 : ((Lg.mk m R s).check : Int) ≠ (0 : Int)
 ·skip
  refine wp_cond_true (c_true F23 rfl (decide_eq_true hc24)) ?_
  refine wp_seq_k (fun K25 hK25 => ?_)
  refine wp_region_lit ?_
  refine qv 0 (.int .i64 0) F23 rfl (rn_assign rfl) fun _ F27 => ?_; clear F23
  refine wpList_nil ?_
  refine hK25 _ _ ?_
  clear hK25
  refine wp_ret ?_
  refine ret_then ?_
  refine ret1 F27 rfl rfl ?_
  exact ⟨by rw [Lg.room_bad (l := ⟨m, R, s⟩) (by omega)], (((Ext.refl w).trans hx5).trans hx18)⟩
 ·skip
  refine wp_cond_false (c_false F23 rfl (decide_eq_false hc24)) ?_
  refine wp_skip ?_
  refine hK12 _ _ ?_
  clear hK12
  refine wp_seq_k (fun K28 hK28 => ?_)
  have hx30 : ∃ W, w17.drew = W ∧ Ext w17 W := ⟨_, rfl, (Ext.refl _).drew⟩
  obtain ⟨w29, e31, hx30⟩ := hx30
  have z32 := hx30.size
  refine any_start (fun W => Ext w29 W ∧ Blk W g2 29 [(.int .i64 m), (.slice A R.length c), (.int .i64 s)]) (fun i => false) 8 #[false, false, false, false, false, false, false, false] rfl rfl rfl ?_
  rw [e31]; clear e31
  refine qp 0 (.pointer (some ⟨g2, 0, none⟩)) F23 rfl rfl (fun W => (rn_field Try.underlying29 rfl (by kernel_rfl) (F23.get rfl) rfl)) fun _ F34 => ?_; clear F23
  have b36 := ((b4.ext hx18).ext hx30)
  have hS35 : Ext w29 w29 ∧ Blk w29 g2 29 [(.int .i64 m), (.slice A R.length c), (.int .i64 s)] := ⟨(Ext.refl w29), b36⟩
  refine qs 1 (.int .i64 m) F34 rfl rfl hS35 (fun W hW => (rn_load (isAgg_no Try.underlying3 rfl) (F34.get rfl) (hW.2.rule.1 0))) fun _ F38 => ?_; clear F34
  refine qp 2 (.pointer (some ⟨g2, 1, none⟩)) F38 rfl rfl (fun W => (rn_field Try.underlying29 rfl (by kernel_rfl) (F38.get rfl) rfl)) fun _ F40 => ?_; clear F38
  refine qs 3 (.slice A R.length c) F40 rfl rfl hS35 (fun W hW => (rn_load (isAgg_no Try.underlying22 rfl) (F40.get rfl) (hW.2.rule.1 1))) fun _ F42 => ?_; clear F40
  refine any_one (i := 4) (by decide +kernel) rfl ?_
  have d43 := (((hnc.ext hx5).ext hx18).ext hx30)
  refine o_call F42 rfl rfl rfl rfl (rn_call (args1 (F42.get rfl)) rfl (by kernel_rfl)) (used_at (v := (.slice A R.length c)) R _ d43 hb) ?_
  rintro _ w44 ⟨rfl, hx45⟩
  refine ⟨_, rfl, ?_⟩; intro a46 F47; clear F42; have z48 := hx45.size
  have b49 := (b36.ext hx45)
  refine ⟨fun _ _ => ⟨((Ext.refl w29).trans hx45), b49⟩, ?_⟩
  refine qp 5 (.int .i64 (wrapI (m - (usedW R)))) F47 rfl rfl (fun W => (subW_ok (F47.get rfl) (F47.get rfl))) fun _ F51 => ?_; clear F47
  refine qp 6 (.int .i64 (wrapI (112 * (wrapI (m - (usedW R)))))) F51 rfl rfl (fun W => (mulW_ok rfl (F51.get rfl))) fun _ F53 => ?_; clear F51
  refine qp 7 (.int .i64 (wrapI (112 * (wrapI (m - (usedW R)))))) F53 rfl rfl (fun W => (rn_assign (F53.get rfl))) fun _ F55 => ?_; clear F53
  refine any_nil (by decide +kernel) ?_
  refine hK28 _ _ ?_
  clear hK28
  have F56 := ((((F55.nil.c F55 5 rfl).c F55 2 rfl).c F55 1 rfl).c F55 0 rfl)
  clear F55
  refine wp_ret ?_
  refine ret1 F56 rfl rfl ?_
  exact ⟨by rw [Lg.room_ok (l := ⟨m, R, s⟩) (by omega)]; rfl, (((((Ext.refl w).trans hx5).trans hx18).trans hx30).trans hx45)⟩

theorem room_at {v : Value} (m : Int) (R : List (List UInt8)) (s : Int) (w : World) (hn : RBss S w v R) (hb : ∀ x ∈ R, x.length ≤ 140737488355328) :
  Calls Try.prog 19 #[.agg #[.int .i64 m, v, .int .i64 s]] w (fun e w' => e = .returned (.int .i64 (Lg.mk m R s).room) ∧ Ext w w') := by
 obtain ⟨A, c, rfl, _⟩ := hn.form
 exact room_any m A c R s w hn hb

end Go.Proofs.Ytfmhnplkpohogaa
