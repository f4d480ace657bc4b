/- Several texts in one: JrS, JrU. -/
import Derived.Test.YtfmhnplkpohogaaProg
import Derived.Test.YtfmhnplkpohogaaBvsC
import Derived.Test.YtfmhnplkpohogaaBvsD
import Derived.Test.YtfmhnplkpohogaaBvsH
import Derived.KernelRfl
import Derived.Test.YtfmhnplkpohogaaBvsA
import Derived.Test.YtfmhnplkpohogaaBvsB
import Derived.Test.YtfmhnplkpohogaaBvsJ
set_option linter.unusedVariables false
set_option linter.unusedSimpArgs false
namespace Go.Proofs.Ytfmhnplkpohogaa
open Go.RowKit

variable {S S' : Nat → Prop}

theorem clipB_any (A : Option Addr) (n cap : Nat) (w : World) (hn : n ≤ cap) :
  Calls Try.prog 37 #[.slice A n cap] w (fun e w' => e = .returned (.slice A n n) ∧ Ext w w') := by
 go_enter Try.func37, Try.ntmps37
 go_wp2
 go_ret
 exact ⟨rfl, Ext.refl _⟩

set_option maxRecDepth 100000 in
set_option maxHeartbeats 1000000 in
theorem sectors_any (A : Option Addr) (n c : Nat) (w : World) (hn : n ≤ 4611686018427387904) :
  Calls Try.prog 35 #[.slice A n c] w (fun e w' => e = .returned (.int .i64 (secs n : Nat)) ∧ Ext w w') := by
 refine calls_enter (l := [(.slice A n c)]) Try.func35 rfl rfl rfl (fun aA hF => ?_)
 refine wp_seq_k (fun K1 hK1 => ?_)
 refine wp_region_lit ?_
 refine qv 0 (.int .i64 0) hF rfl (rn_assign rfl) fun _ F3 => ?_; clear hF
 refine wpList_nil ?_
 refine hK1 _ _ ?_
 clear hK1
 refine wp_seq_k (fun K4 hK4 => ?_)
 refine wp_region_lit ?_
 refine qv 0 (.slice A n c) F3 rfl (rn_move (F3.get rfl)) fun _ F6 => ?_; clear F3
 refine qv 1 (.int .i64 (n : Nat)) F6 rfl (rn_len_slice Try.underlying35 (F6.get rfl)) fun _ F8 => ?_; clear F6
 refine qv 2 (.int .i64 (n + 112 : Nat)) F8 rfl (rn_addN (a := n) (b := 112) (F8.get rfl) rfl (by omega)) fun _ F10 => ?_; clear F8
 refine qv 3 (.int .i64 ((n + 112) - 1 : Nat)) F10 rfl (rn_subN (a := n + 112) (b := 1) (F10.get rfl) rfl (by omega) (by omega)) fun _ F12 => ?_; clear F10
 refine qv 4 (.int .i64 (((n + 112) - 1) / 112 : Nat)) F12 rfl (rn_quoN (a := (n + 112) - 1) (b := 112) (F12.get rfl) rfl (by omega) (by omega)) fun _ F14 => ?_; clear F12
 refine qv 5 (.int .i64 (max 1 (((n + 112) - 1) / 112) : Nat)) F14 rfl (rn_max2N (a := 1) (b := ((n + 112) - 1) / 112) Try.underlying3 rfl (F14.get rfl)) fun _ F16 => ?_; clear F14
 refine qv 6 (.int .i64 (max 1 (((n + 112) - 1) / 112) : Nat)) F16 rfl (rn_assign (F16.get rfl)) fun _ F18 => ?_; clear F16
 refine wpList_nil ?_
 refine hK4 _ _ ?_
 clear hK4
 have F19 := ((F18.nil.c F18 2 rfl).c F18 0 rfl)
 clear F18
 refine wp_ret ?_
 refine ret1 F19 rfl rfl ?_
 exact ⟨congrArg (fun z : Int => Ending.returned (.int .i64 z)) (show ((max 1 (((n + 112) - 1) / 112) : Nat) : Int) = ((secs n : Nat) : Int) by unfold secs; omega), (Ext.refl w)⟩

set_option maxRecDepth 100000 in
set_option maxHeartbeats 1000000 in
theorem rsectors_any (n : Nat) (w : World) (hn : n ≤ 4611686018427387904) :
  Calls Try.prog 39 #[.int .i64 (n : Nat)] w (fun e w' => e = .returned (.int .i64 (secs n : Nat)) ∧ Ext w w') := by
 refine calls_enter (l := [(.int .i64 (n : Nat))]) Try.func39 rfl rfl rfl (fun aA hF => ?_)
 refine wp_seq_k (fun K1 hK1 => ?_)
 refine wp_region_lit ?_
 refine qv 0 (.int .i64 0) hF rfl (rn_assign rfl) fun _ F3 => ?_; clear hF
 refine wpList_nil ?_
 refine hK1 _ _ ?_
 clear hK1
 refine wp_seq_k (fun K4 hK4 => ?_)
 refine wp_region_lit ?_
 refine qv 0 (.int .i64 (n : Nat)) F3 rfl (rn_move (F3.get rfl)) fun _ F6 => ?_; clear F3
 refine qv 1 (.int .i64 (n + 112 : Nat)) F6 rfl (rn_addN (a := n) (b := 112) (F6.get rfl) rfl (by omega)) fun _ F8 => ?_; clear F6
 refine qv 2 (.int .i64 ((n + 112) - 1 : Nat)) F8 rfl (rn_subN (a := n + 112) (b := 1) (F8.get rfl) rfl (by omega) (by omega)) fun _ F10 => ?_; clear F8
 refine qv 3 (.int .i64 (((n + 112) - 1) / 112 : Nat)) F10 rfl (rn_quoN (a := (n + 112) - 1) (b := 112) (F10.get rfl) rfl (by omega) (by omega)) fun _ F12 => ?_; clear F10
 refine qv 4 (.int .i64 (max 1 (((n + 112) - 1) / 112) : Nat)) F12 rfl (rn_max2N (a := 1) (b := ((n + 112) - 1) / 112) Try.underlying3 rfl (F12.get rfl)) fun _ F14 => ?_; clear F12
 refine qv 5 (.int .i64 (max 1 (((n + 112) - 1) / 112) : Nat)) F14 rfl (rn_assign (F14.get rfl)) fun _ F16 => ?_; clear F14
 refine wpList_nil ?_
 refine hK4 _ _ ?_
 clear hK4
 have F17 := ((F16.nil.c F16 2 rfl).c F16 0 rfl)
 clear F16
 refine wp_ret ?_
 refine ret1 F17 rfl rfl ?_
 exact ⟨congrArg (fun z : Int => Ending.returned (.int .i64 z)) (show ((max 1 (((n + 112) - 1) / 112) : Nat) : Int) = ((secs n : Nat) : Int) by unfold secs; omega), (Ext.refl w)⟩

set_option maxRecDepth 100000 in
set_option maxHeartbeats 1000000 in
theorem used_any (A : Option Addr) (c : Nat) (R : List (List UInt8)) (w : World) (hn : RBss S w (.slice A R.length c) R) (hb : ∀ x ∈ R, x.length ≤ 140737488355328) :
  Calls Try.prog 36 #[.slice A R.length c] w (fun e w' => e = .returned (.int .i64 (usedW R)) ∧ Ext w w') := by
 have hnc := RBss.clip hn
 obtain ⟨-, hcR1, hcR2⟩ := RBss.at hn
 refine calls_enter (l := [(.slice A R.length c)]) Try.func36 rfl rfl rfl (fun aA hF => ?_)
 refine wp_seq_k (fun K1 hK1 => ?_)
 refine wp_region_lit ?_
 refine qv 0 (.int .i64 0) hF rfl (rn_assign rfl) fun _ F3 => ?_; clear hF
 refine wpList_nil ?_
 refine hK1 _ _ ?_
 clear hK1
 refine wp_seq_k (fun K4 hK4 => ?_)
 refine wp_seq_k (fun K5 hK5 => ?_)
 refine wp_region_lit ?_
 refine qv 0 (.slice A R.length c) F3 rfl (rn_move (F3.get rfl)) fun _ F7 => ?_; clear F3
 refine qv 1 (.int .i64 (R.length : Nat)) F7 rfl (rn_len_slice Try.underlying22 (F7.get rfl)) fun _ F9 => ?_; clear F7
 refine qv 2 (.int .i64 0) F9 rfl (rn_move rfl) fun _ F11 => ?_; clear F9
 refine wpList_nil ?_
 refine hK5 _ _ ?_
 clear hK5
 refine wp_block ?_
 refine wp_loop (fun a' W => ∃ (k : Nat) (u : Int), Sl 17 [(0, (.slice A R.length c)), (2, (.int .i64 u)), (5, (.slice A R.length c)), (6, (.int .i64 (R.length : Nat))), (7, (.int .i64 (k : Nat)))] a' ∧ k ≤ R.length ∧ u = usedW (R.take k) ∧ Ext w W ∧ w.heap.size ≤ W.heap.size) (fun a' _ => R.length - (intOf (a'.eval (.tmp 7))).toNat) ⟨0, 0, (((((F11.nil.cons (q_get F11 (t := 7) rfl (by first | rfl | (congr 1; omega) | (congr 1; done)))).cons (q_get F11 (t := 6) rfl rfl)).cons (q_get F11 (t := 5) rfl rfl)).cons (q_get F11 (t := 2) rfl (by first | rfl | (congr 1; omega) | (congr 1; done)))).cons (q_get F11 (t := 0) rfl rfl)), (by omega), rfl, (Ext.refl w), (Nat.le_refl _)⟩ ?_
 clear F11
 rintro a12 w13 ⟨k, u, F14, hp16, hp17, hx15, hf18⟩
 have hL19 := F14
 have z20 := hx15.size
 refine wp_seq_k (fun K21 hK21 => ?_)
 refine wp_region_lit ?_
 refine qv 0 (.bool (decide (((k : Nat) : Int) < ((R.length : Nat) : Int)))) F14 rfl (rn_lss (F14.get rfl) (F14.get rfl)) fun _ F23 => ?_; clear F14
 refine wpList_nil ?_
 refine hK21 _ _ ?_
 clear hK21
 refine wp_seq_k (fun K24 hK24 => ?_)
 by_cases hc25 : ((k : Nat) : Int) < ((R.length : Nat) : Int)
 ·skip
  refine wp_cond_true (c_true F23 rfl (decide_eq_true hc25)) ?_
  refine wp_skip ?_
  refine hK24 _ _ ?_
  clear hK24
  refine wp_seq_k (fun K26 hK26 => ?_)
  refine wp_block ?_
  refine wp_seq_k (fun K27 hK27 => ?_)
  refine wp_region_lit ?_
  have d41 := (hnc.ext hx15)
  obtain ⟨x28, hi29, hm30⟩ := nth_of_lt R k (by omega)
  obtain ⟨b31, o32, A33, c34, hA35, hl36, hc37, hr38, le39, le40⟩ := RBss.get d41 hi29
  have z42 := hb x28 (List.mem_of_getElem? hi29)
  refine qv 0 (.pointer (some ⟨b31, o32 + k, none⟩)) F23 rfl (rn_index1 Try.underlying22 inf35 ((F23.get rfl).trans (by rw [hA35])) (F23.get rfl) (by omega : (0 : Int) ≤ (k : Nat)) (by omega : ((k : Nat) : Int) < ((R.length : Nat) : Int))) fun _ F44 => ?_; clear F23
  refine qv 1 (.slice A33 x28.length c34) F44 rfl (rn_load (isAgg_no Try.underlying35 rfl) (F44.get rfl) (Ext.keep (Ext.refl w13) hc37)) fun _ F46 => ?_; clear F44
  refine qv 2 (.slice A33 x28.length c34) F46 rfl (rn_assign (F46.get rfl)) fun _ F48 => ?_; clear F46
  refine wpList_nil ?_
  refine hK27 _ _ ?_
  clear hK27
  refine wp_region_lit ?_
  refine qv 0 (.int .i64 u) F48 rfl (rn_move (F48.get rfl)) fun _ F50 => ?_; clear F48
  refine qv 1 (.slice A33 x28.length c34) F50 rfl (rn_move (F50.get rfl)) fun _ F52 => ?_; clear F50
  refine wpl_op (i := 2) rfl (o_call F52 rfl rfl rfl rfl (rn_call (args1 (F52.get rfl)) rfl (by kernel_rfl)) (sectors_any A33 x28.length c34 _ (by omega)) ?_)
  rintro _ w53 ⟨rfl, hx54⟩
  refine ⟨_, rfl, ?_⟩; intro a55 F56; clear F52; have z57 := hx54.size
  refine qv 3 (.int .i64 (wrapI (u + (secs x28.length : Nat)))) F56 rfl (addW_ok (k := .i64) (F56.get rfl) (F56.get rfl)) fun _ F59 => ?_; clear F56
  refine qv 4 (.int .i64 (wrapI (u + (secs x28.length : Nat)))) F59 rfl (rn_assign (F59.get rfl)) fun _ F61 => ?_; clear F59
  refine wpList_nil ?_
  refine hK26 _ _ ?_
  clear hK26
  have F62 := (((((((F61.nil.c F61 4 rfl).c F61 8 rfl).c F61 7 rfl).c F61 6 rfl).c F61 5 rfl).c F61 2 rfl).c F61 0 rfl)
  clear F61
  refine wp_region_lit ?_
  refine qv 0 (.int .i64 (k + 1 : Nat)) F62 rfl (rn_addN (a := k) (b := 1) (F62.get rfl) rfl (by omega)) fun _ F64 => ?_; clear F62
  refine qv 1 (.int .i64 (k + 1 : Nat)) F64 rfl (rn_move (F64.get rfl)) fun _ F66 => ?_; clear F64
  refine wpList_nil ?_
  refine ⟨⟨(k + 1), (wrapI (u + (secs x28.length : Nat))), (((((F66.nil.cons (q_get F66 (t := 7) rfl (by first | rfl | (congr 1; omega) | (congr 1; done)))).cons (q_get F66 (t := 6) rfl rfl)).cons (q_get F66 (t := 5) rfl rfl)).cons (q_get F66 (t := 2) rfl (by first | rfl | (congr 1; omega) | (congr 1; done)))).cons (q_get F66 (t := 0) rfl rfl)), (by omega), (by rw [usedW_take hi29, ← hp17]), (((Ext.refl w).trans hx15).trans hx54), (by omega)⟩, ?_⟩
  rw [F66.get (t := 7) rfl, hL19.get (t := 7) rfl]; simp [intOf] <;> omega
 ·skip
  refine wp_cond_false (c_false F23 rfl (decide_eq_false hc25)) ?_
  refine wp_exit ?_
  refine exit_then ?_
  refine exit_then ?_
  refine exit_here ?_
  refine hK4 _ _ ?_
  clear hK4
  refine wp_seq_k (fun K67 hK67 => ?_)
  refine wp_region_lit ?_
  refine qv 0 (.int .i64 u) F23 rfl (rn_move (F23.get rfl)) fun _ F69 => ?_; clear F23
  refine qv 1 (.int .i64 u) F69 rfl (rn_assign (F69.get rfl)) fun _ F71 => ?_; clear F69
  refine wpList_nil ?_
  refine hK67 _ _ ?_
  clear hK67
  refine wp_ret ?_
  refine ret1 F71 rfl rfl ?_
  have hk : k = R.length := by omega
  have hu2 := hp17
  rw [hk, List.take_length] at hu2
  exact ⟨by rw [hu2], ((Ext.refl w).trans hx15)⟩

theorem used_at {v : Value} (R : List (List UInt8)) (w : World) (hn : RBss S w v R) (hb : ∀ x ∈ R, x.length ≤ 140737488355328) :
  Calls Try.prog 36 #[v] w (fun e w' => e = .returned (.int .i64 (usedW R)) ∧ Ext w w') := by
 obtain ⟨A, c, rfl, _⟩ := hn.form
 exact used_any A c R w hn hb

set_option maxRecDepth 100000 in
set_option maxHeartbeats 1000000 in
theorem rused_any (A : Option Addr) (c : Nat) (R : List (List UInt8)) (w : World) (hn : RBss S w (.slice A R.length c) R) (hb : ∀ x ∈ R, x.length ≤ 140737488355328) :
  Calls Try.prog 40 #[.slice A R.length c] w (fun e w' => e = .returned (.int .i64 (usedW R)) ∧ Ext w w') := by
 have hnc := RBss.clip hn
 obtain ⟨-, hcR1, hcR2⟩ := RBss.at hn
 refine calls_enter (l := [(.slice A R.length c)]) Try.func40 rfl rfl rfl (fun aA hF => ?_)
 refine wp_seq_k (fun K1 hK1 => ?_)
 refine wp_region_lit ?_
 refine qv 0 (.int .i64 0) hF rfl (rn_assign rfl) fun _ F3 => ?_; clear hF
 refine wpList_nil ?_
 refine hK1 _ _ ?_
 clear hK1
 refine wp_seq_k (fun K4 hK4 => ?_)
 refine wp_region_lit ?_
 refine qv 0 (.int .i64 0) F3 rfl (rn_assign rfl) fun _ F6 => ?_; clear F3
 refine wpList_nil ?_
 refine hK4 _ _ ?_
 clear hK4
 refine wp_seq_k (fun K7 hK7 => ?_)
 refine wp_seq_k (fun K8 hK8 => ?_)
 refine wp_region_lit ?_
 refine qv 0 (.int .i64 0) F6 rfl (rn_assign rfl) fun _ F10 => ?_; clear F6
 refine wpList_nil ?_
 refine hK8 _ _ ?_
 clear hK8
 refine wp_block ?_
 refine wp_loop (fun a' W => ∃ (k : Nat) (u : Int), Sl 20 [(0, (.slice A R.length c)), (2, (.int .i64 0)), (3, (.int .i64 u)), (4, (.int .i64 (k : Nat)))] a' ∧ k ≤ R.length ∧ u = usedW (R.take k) ∧ Ext w W ∧ w.heap.size ≤ W.heap.size) (fun a' _ => R.length - (intOf (a'.eval (.tmp 4))).toNat) ⟨0, 0, ((((F10.nil.cons (q_get F10 (t := 4) rfl (by first | rfl | (congr 1; omega) | (congr 1; done)))).cons (q_get F10 (t := 3) rfl (by first | rfl | (congr 1; omega) | (congr 1; done)))).cons (q_get F10 (t := 2) rfl rfl)).cons (q_get F10 (t := 0) rfl rfl)), (by omega), rfl, (Ext.refl w), (Nat.le_refl _)⟩ ?_
 clear F10
 rintro a11 w12 ⟨k, u, F13, hp15, hp16, hx14, hf17⟩
 have hL18 := F13
 have z19 := hx14.size
 refine wp_seq_k (fun K20 hK20 => ?_)
 refine wp_seq_k (fun K21 hK21 => ?_)
 refine wp_region_lit ?_
 refine qv 0 (.int .i64 (k : Nat)) F13 rfl (rn_move (F13.get rfl)) fun _ F23 => ?_; clear F13
 refine qv 1 (.slice A R.length c) F23 rfl (rn_move (F23.get rfl)) fun _ F25 => ?_; clear F23
 refine qv 2 (.int .i64 (R.length : Nat)) F25 rfl (rn_len_slice Try.underlying22 (F25.get rfl)) fun _ F27 => ?_; clear F25
 refine qv 3 (.bool (decide (((k : Nat) : Int) < ((R.length : Nat) : Int)))) F27 rfl (rn_lss (F27.get rfl) (F27.get rfl)) fun _ F29 => ?_; clear F27
 refine wpList_nil ?_
 refine hK21 _ _ ?_
 clear hK21
 by_cases hc30 : ((k : Nat) : Int) < ((R.length : Nat) : Int)
 ·skip
  refine wp_cond_true (c_true F29 rfl (decide_eq_true hc30)) ?_
  refine wp_skip ?_
  refine hK20 _ _ ?_
  clear hK20
  refine wp_seq_k (fun K31 hK31 => ?_)
  refine wp_block ?_
  refine wp_region_lit ?_
  refine qv 0 (.int .i64 u) F29 rfl (rn_move (F29.get rfl)) fun _ F33 => ?_; clear F29
  refine qv 1 (.slice A R.length c) F33 rfl (rn_move (F33.get rfl)) fun _ F35 => ?_; clear F33
  refine qv 2 (.int .i64 (k : Nat)) F35 rfl (rn_move (F35.get rfl)) fun _ F37 => ?_; clear F35
  have d51 := (hnc.ext hx14)
  obtain ⟨x38, hi39, hm40⟩ := nth_of_lt R k (by omega)
  obtain ⟨b41, o42, A43, c44, hA45, hl46, hc47, hr48, le49, le50⟩ := RBss.get d51 hi39
  have z52 := hb x38 (List.mem_of_getElem? hi39)
  refine qv 3 (.pointer (some ⟨b41, o42 + k, none⟩)) F37 rfl (rn_index1 Try.underlying22 inf35 ((F37.get rfl).trans (by rw [hA45])) (F37.get rfl) (by omega : (0 : Int) ≤ (k : Nat)) (by omega : ((k : Nat) : Int) < ((R.length : Nat) : Int))) fun _ F54 => ?_; clear F37
  refine qv 4 (.slice A43 x38.length c44) F54 rfl (rn_load (isAgg_no Try.underlying35 rfl) (F54.get rfl) (Ext.keep (Ext.refl w12) hc47)) fun _ F56 => ?_; clear F54
  refine qv 5 (.int .i64 (x38.length : Nat)) F56 rfl (rn_len_slice Try.underlying35 (F56.get rfl)) fun _ F58 => ?_; clear F56
  refine wpl_op (i := 6) rfl (o_call F58 rfl rfl rfl rfl (rn_call (args1 (F58.get rfl)) rfl (by kernel_rfl)) (rsectors_any x38.length _ (by omega)) ?_)
  rintro _ w59 ⟨rfl, hx60⟩
  refine ⟨_, rfl, ?_⟩; intro a61 F62; clear F58; have z63 := hx60.size
  refine qv 7 (.int .i64 (wrapI (u + (secs x38.length : Nat)))) F62 rfl (addW_ok (k := .i64) (F62.get rfl) (F62.get rfl)) fun _ F65 => ?_; clear F62
  refine qv 8 (.int .i64 (wrapI (u + (secs x38.length : Nat)))) F65 rfl (rn_assign (F65.get rfl)) fun _ F67 => ?_; clear F65
  refine wpList_nil ?_
  refine hK31 _ _ ?_
  clear hK31
  have F68 := (((((F67.nil.c F67 8 rfl).c F67 4 rfl).c F67 3 rfl).c F67 2 rfl).c F67 0 rfl)
  clear F67
  refine wp_region_lit ?_
  refine qv 0 (.int .i64 (k : Nat)) F68 rfl (rn_move (F68.get rfl)) fun _ F70 => ?_; clear F68
  refine qv 1 (.int .i64 (k + 1 : Nat)) F70 rfl (rn_addN (a := k) (b := 1) (F70.get rfl) rfl (by omega)) fun _ F72 => ?_; clear F70
  refine qv 2 (.int .i64 (k + 1 : Nat)) F72 rfl (rn_assign (F72.get rfl)) fun _ F74 => ?_; clear F72
  refine wpList_nil ?_
  refine ⟨⟨(k + 1), (wrapI (u + (secs x38.length : Nat))), ((((F74.nil.cons (q_get F74 (t := 4) rfl (by first | rfl | (congr 1; omega) | (congr 1; done)))).cons (q_get F74 (t := 3) rfl (by first | rfl | (congr 1; omega) | (congr 1; done)))).cons (q_get F74 (t := 2) rfl rfl)).cons (q_get F74 (t := 0) rfl rfl)), (by omega), (by rw [usedW_take hi39, ← hp16]), (((Ext.refl w).trans hx14).trans hx60), (by omega)⟩, ?_⟩
  rw [F74.get (t := 4) rfl, hL18.get (t := 4) rfl]; simp [intOf] <;> omega
 ·skip
  refine wp_cond_false (c_false F29 rfl (decide_eq_false hc30)) ?_
  refine wp_exit ?_
  refine exit_then ?_
  refine exit_then ?_
  refine exit_here ?_
  refine hK7 _ _ ?_
  clear hK7
  refine wp_seq_k (fun K75 hK75 => ?_)
  refine wp_region_lit ?_
  refine qv 0 (.int .i64 u) F29 rfl (rn_move (F29.get rfl)) fun _ F77 => ?_; clear F29
  refine qv 1 (.int .i64 u) F77 rfl (rn_assign (F77.get rfl)) fun _ F79 => ?_; clear F77
  refine wpList_nil ?_
  refine hK75 _ _ ?_
  clear hK75
  have F80 := (((((F79.nil.c F79 8 rfl).c F79 4 rfl).c F79 3 rfl).c F79 2 rfl).c F79 0 rfl)
  clear F79
  refine wp_ret ?_
  refine ret1 F80 rfl rfl ?_
  have hk : k = R.length := by omega
  have hu2 := hp16
  rw [hk, List.take_length] at hu2
  exact ⟨by rw [hu2], ((Ext.refl w).trans hx14)⟩

theorem rused_at {v : Value} (R : List (List UInt8)) (w : World) (hn : RBss S w v R) (hb : ∀ x ∈ R, x.length ≤ 140737488355328) :
  Calls Try.prog 40 #[v] w (fun e w' => e = .returned (.int .i64 (usedW R)) ∧ Ext w w') := by
 obtain ⟨A, c, rfl, _⟩ := hn.form
 exact rused_any A c R w hn hb

set_option maxRecDepth 100000 in
set_option maxHeartbeats 1000000 in
theorem chk_any (m : Int) (A : Option Addr) (c : Nat) (R : List (List UInt8)) (s : Int) (w : World) (hn : RBss S w (.slice A R.length c) R) (hb : ∀ x ∈ R, x.length ≤ 140737488355328) :
  Calls Try.prog 17 #[.agg #[.int .i64 m, .slice A R.length c, .int .i64 s]] w (fun e w' => e = .returned (.int .i64 (Lg.mk m R s).check) ∧ Ext w w') := by
 have hnc := RBss.clip hn
 obtain ⟨-, hcR1, hcR2⟩ := RBss.at hn
 refine calls_enter (l := [(.agg #[(.int .i64 m), (.slice A R.length c), (.int .i64 s)])]) Try.func17 rfl rfl rfl (fun aA hF => ?_)
 refine wp_seq_k (fun K1 hK1 => ?_)
 refine wp_region_lit ?_
 refine wpl_op (i := 0) rfl (o_new (fun g => (.pointer (some ⟨g, 0, none⟩))) [(.int .i64 m), (.slice A R.length c), (.int .i64 s)] 29 hF rfl rfl rfl rfl (rn_box (hF.get rfl) (by kernel_rfl)) ?_)
 intro g2 w3 a8 F9 z6 z7 b4 hx5; clear hF
 refine qv 1 (.int .i64 0) F9 rfl (rn_assign rfl) fun _ F11 => ?_; clear F9
 refine wpList_nil ?_
 refine hK1 _ _ ?_
 clear hK1
 refine wp_seq_k (fun K12 hK12 => ?_)
 refine wp_seq_k (fun K13 hK13 => ?_)
 have hx15 : ∃ W, w3.drew = W ∧ Ext w3 W := ⟨_, rfl, (Ext.refl _).drew⟩
 obtain ⟨w14, e16, hx15⟩ := hx15
 have z17 := hx15.size
 refine any_start (fun W => Ext w14 W ∧ Blk W g2 29 [(.int .i64 m), (.slice A R.length c), (.int .i64 s)]) (fun i => false) 29 #[false, false, false, false, false, false, false, false, false, false, false, false, false, false, false, false, false, false, false, false, false, false, false, false, false, false, false, false, false] rfl rfl rfl ?_
 rw [e16]; clear e16
 refine qp 0 (.pointer (some ⟨g2, 0, none⟩)) F11 rfl rfl (fun W => (rn_field Try.underlying29 rfl (by kernel_rfl) (F11.get rfl) rfl)) fun _ F19 => ?_; clear F11
 have b21 := (b4.ext hx15)
 have hS20 : Ext w14 w14 ∧ Blk w14 g2 29 [(.int .i64 m), (.slice A R.length c), (.int .i64 s)] := ⟨(Ext.refl w14), b21⟩
 refine qs 1 (.int .i64 m) F19 rfl rfl hS20 (fun W hW => (rn_load (isAgg_no Try.underlying3 rfl) (F19.get rfl) (hW.2.rule.1 0))) fun _ F23 => ?_; clear F19
 refine qp 2 (.bool (decide ((m : Int) < (1 : Int)))) F23 rfl rfl (fun W => (rn_lss (F23.get rfl) rfl)) fun _ F25 => ?_; clear F23
 refine qp 3 (.bool (decide ((m : Int) < (1 : Int)))) F25 rfl rfl (fun W => (rn_move (F25.get rfl))) fun _ F27 => ?_; clear F25
 by_cases hc28 : (m : Int) < (1 : Int)
 ·skip
  refine qk 4 F27 rfl (decide_eq_true hc28) fun _ F30 => ?_; clear F27
  refine qk 5 F30 rfl (decide_eq_true hc28) fun _ F32 => ?_; clear F30
  refine qk 6 F32 rfl (decide_eq_true hc28) fun _ F34 => ?_; clear F32
  refine qp 7 (.bool true) F34 rfl rfl (fun W => (rn_pickT (c_true F34 rfl (decide_eq_true hc28)) rfl)) fun _ F36 => ?_; clear F34
  refine qp 8 (.bool true) F36 rfl rfl (fun W => (rn_move (F36.get rfl))) fun _ F38 => ?_; clear F36
  refine qk 9 F38 rfl rfl fun _ F40 => ?_; clear F38
  refine qk 10 F40 rfl rfl fun _ F42 => ?_; clear F40
  refine qk 11 F42 rfl rfl fun _ F44 => ?_; clear F42
  refine qp 12 (.bool true) F44 rfl rfl (fun W => (rn_pickT (c_true F44 rfl rfl) rfl)) fun _ F46 => ?_; clear F44
  refine qp 13 (.bool true) F46 rfl rfl (fun W => (rn_move (F46.get rfl))) fun _ F48 => ?_; clear F46
  refine qk 14 F48 rfl rfl fun _ F50 => ?_; clear F48
  refine qk 15 F50 rfl rfl fun _ F52 => ?_; clear F50
  refine qk 16 F52 rfl rfl fun _ F54 => ?_; clear F52
  refine qk 17 F54 rfl rfl fun _ F56 => ?_; clear F54
  refine qk 18 F56 rfl rfl fun _ F58 => ?_; clear F56
  refine qk 19 F58 rfl rfl fun _ F60 => ?_; clear F58
  refine qp 20 (.bool true) F60 rfl rfl (fun W => (rn_pickT (c_true F60 rfl rfl) rfl)) fun _ F62 => ?_; clear F60
  refine qp 21 (.bool true) F62 rfl rfl (fun W => (rn_move (F62.get rfl))) fun _ F64 => ?_; clear F62
  refine qk 22 F64 rfl rfl fun _ F66 => ?_; clear F64
  refine qk 23 F66 rfl rfl fun _ F68 => ?_; clear F66
  refine qk 25 F68 rfl rfl fun _ F70 => ?_; clear F68
  refine qk 26 F70 rfl rfl fun _ F72 => ?_; clear F70
  refine any_one (i := 24) (by decide +kernel) rfl ?_
  refine o_skip F72 rfl (unwanted_guard rfl rfl rfl F72 rfl rfl rfl) rfl rfl ?_
  intro a73 F74; clear F72
  refine ⟨fun _ _ => ⟨(Ext.refl w14), b21⟩, ?_⟩
  refine qk 27 F74 rfl rfl fun _ F76 => ?_; clear F74
  refine qp 28 (.bool true) F76 rfl rfl (fun W => (rn_pickT (c_true F76 rfl rfl) rfl)) fun _ F78 => ?_; clear F76
  refine any_nil (by decide +kernel) ?_
  refine hK13 _ _ ?_
  clear hK13
  have F79 := ((((F78.nil.c F78 31 rfl).c F78 2 rfl).c F78 1 rfl).c F78 0 rfl)
  clear F78
  refine wp_cond_true (c_true F79 rfl rfl) ?_
  refine wp_seq_k (fun K80 hK80 => ?_)
  refine wp_region_lit ?_
  refine qv 0 (.int .i64 1) F79 rfl (rn_assign rfl) fun _ F82 => ?_; clear F79
  refine wpList_nil ?_
  refine hK80 _ _ ?_
  clear hK80
  refine wp_ret ?_
  refine ret_then ?_
  refine ret1 F82 rfl rfl ?_
  exact ⟨by rw [Lg.check_bad m R s (by omega)], (((Ext.refl w).trans hx5).trans hx15)⟩
 ·skip
  refine qp 4 (.pointer (some ⟨g2, 0, none⟩)) F27 rfl (wanted_guard rfl rfl rfl F27 rfl (decide_eq_false hc28) rfl) (fun W => (rn_field Try.underlying29 rfl (by kernel_rfl) (F27.get rfl) rfl)) fun _ F84 => ?_; clear F27
  refine qs 5 (.int .i64 m) F84 rfl (wanted_guard rfl rfl rfl F84 rfl (decide_eq_false hc28) rfl) hS20 (fun W hW => (rn_load (isAgg_no Try.underlying3 rfl) (F84.get rfl) (hW.2.rule.1 0))) fun _ F86 => ?_; clear F84
  refine qp 6 (.bool (decide ((4096 : Int) < (m : Int)))) F86 rfl (wanted_guard rfl rfl rfl F86 rfl (decide_eq_false hc28) rfl) (fun W => (rn_gtr (F86.get rfl) rfl)) fun _ F88 => ?_; clear F86
  refine qp 7 (.bool (decide ((4096 : Int) < (m : Int)))) F88 rfl rfl (fun W => (rn_pickF (c_false F88 rfl (decide_eq_false hc28)) (F88.get rfl))) fun _ F90 => ?_; clear F88
  refine qp 8 (.bool (decide ((4096 : Int) < (m : Int)))) F90 rfl rfl (fun W => (rn_move (F90.get rfl))) fun _ F92 => ?_; clear F90
  by_cases hc93 : (4096 : Int) < (m : Int)
  ·skip
   refine qk 9 F92 rfl (decide_eq_true hc93) fun _ F95 => ?_; clear F92
   refine qk 10 F95 rfl (decide_eq_true hc93) fun _ F97 => ?_; clear F95
   refine qk 11 F97 rfl (decide_eq_true hc93) fun _ F99 => ?_; clear F97
   refine qp 12 (.bool true) F99 rfl rfl (fun W => (rn_pickT (c_true F99 rfl (decide_eq_true hc93)) rfl)) fun _ F101 => ?_; clear F99
   refine qp 13 (.bool true) F101 rfl rfl (fun W => (rn_move (F101.get rfl))) fun _ F103 => ?_; clear F101
   refine qk 14 F103 rfl rfl fun _ F105 => ?_; clear F103
   refine qk 15 F105 rfl rfl fun _ F107 => ?_; clear F105
   refine qk 16 F107 rfl rfl fun _ F109 => ?_; clear F107
   refine qk 17 F109 rfl rfl fun _ F111 => ?_; clear F109
   refine qk 18 F111 rfl rfl fun _ F113 => ?_; clear F111
   refine qk 19 F113 rfl rfl fun _ F115 => ?_; clear F113
   refine qp 20 (.bool true) F115 rfl rfl (fun W => (rn_pickT (c_true F115 rfl rfl) rfl)) fun _ F117 => ?_; clear F115
   refine qp 21 (.bool true) F117 rfl rfl (fun W => (rn_move (F117.get rfl))) fun _ F119 => ?_; clear F117
   refine qk 22 F119 rfl rfl fun _ F121 => ?_; clear F119
   refine qk 23 F121 rfl rfl fun _ F123 => ?_; clear F121
   refine qk 25 F123 rfl rfl fun _ F125 => ?_; clear F123
   refine qk 26 F125 rfl rfl fun _ F127 => ?_; clear F125
   refine any_one (i := 24) (by decide +kernel) rfl ?_
   refine o_skip F127 rfl (unwanted_guard rfl rfl rfl F127 rfl rfl rfl) rfl rfl ?_
   intro a128 F129; clear F127
   refine ⟨fun _ _ => ⟨(Ext.refl w14), b21⟩, ?_⟩
   refine qk 27 F129 rfl rfl fun _ F131 => ?_; clear F129
   refine qp 28 (.bool true) F131 rfl rfl (fun W => (rn_pickT (c_true F131 rfl rfl) rfl)) fun _ F133 => ?_; clear F131
   refine any_nil (by decide +kernel) ?_
   refine hK13 _ _ ?_
   clear hK13
   have F134 := ((((F133.nil.c F133 31 rfl).c F133 2 rfl).c F133 1 rfl).c F133 0 rfl)
   clear F133
   refine wp_cond_true (c_true F134 rfl rfl) ?_
   refine wp_seq_k (fun K135 hK135 => ?_)
   refine wp_region_lit ?_
   refine qv 0 (.int .i64 1) F134 rfl (rn_assign rfl) fun _ F137 => ?_; clear F134
   refine wpList_nil ?_
   refine hK135 _ _ ?_
   clear hK135
   refine wp_ret ?_
   refine ret_then ?_
   refine ret1 F137 rfl rfl ?_
   exact ⟨by rw [Lg.check_bad m R s (by omega)], (((Ext.refl w).trans hx5).trans hx15)⟩
  ·skip
   refine qp 9 (.pointer (some ⟨g2, 2, none⟩)) F92 rfl (wanted_guard rfl rfl rfl F92 rfl (decide_eq_false hc93) rfl) (fun W => (rn_field Try.underlying29 rfl (by kernel_rfl) (F92.get rfl) rfl)) fun _ F139 => ?_; clear F92
   refine qs 10 (.int .i64 s) F139 rfl (wanted_guard rfl rfl rfl F139 rfl (decide_eq_false hc93) rfl) hS20 (fun W hW => (rn_load (isAgg_no Try.underlying3 rfl) (F139.get rfl) (hW.2.rule.1 2))) fun _ F141 => ?_; clear F139
   refine qp 11 (.bool (decide ((s : Int) < (0 : Int)))) F141 rfl (wanted_guard rfl rfl rfl F141 rfl (decide_eq_false hc93) rfl) (fun W => (rn_lss (F141.get rfl) rfl)) fun _ F143 => ?_; clear F141
   refine qp 12 (.bool (decide ((s : Int) < (0 : Int)))) F143 rfl rfl (fun W => (rn_pickF (c_false F143 rfl (decide_eq_false hc93)) (F143.get rfl))) fun _ F145 => ?_; clear F143
   refine qp 13 (.bool (decide ((s : Int) < (0 : Int)))) F145 rfl rfl (fun W => (rn_move (F145.get rfl))) fun _ F147 => ?_; clear F145
   by_cases hc148 : (s : Int) < (0 : Int)
   ·skip
    refine qk 14 F147 rfl (decide_eq_true hc148) fun _ F150 => ?_; clear F147
    refine qk 15 F150 rfl (decide_eq_true hc148) fun _ F152 => ?_; clear F150
    refine qk 16 F152 rfl (decide_eq_true hc148) fun _ F154 => ?_; clear F152
    refine qk 17 F154 rfl (decide_eq_true hc148) fun _ F156 => ?_; clear F154
    refine qk 18 F156 rfl (decide_eq_true hc148) fun _ F158 => ?_; clear F156
    refine qk 19 F158 rfl (decide_eq_true hc148) fun _ F160 => ?_; clear F158
    refine qp 20 (.bool true) F160 rfl rfl (fun W => (rn_pickT (c_true F160 rfl (decide_eq_true hc148)) rfl)) fun _ F162 => ?_; clear F160
    refine qp 21 (.bool true) F162 rfl rfl (fun W => (rn_move (F162.get rfl))) fun _ F164 => ?_; clear F162
    refine qk 22 F164 rfl rfl fun _ F166 => ?_; clear F164
    refine qk 23 F166 rfl rfl fun _ F168 => ?_; clear F166
    refine qk 25 F168 rfl rfl fun _ F170 => ?_; clear F168
    refine qk 26 F170 rfl rfl fun _ F172 => ?_; clear F170
    refine any_one (i := 24) (by decide +kernel) rfl ?_
    refine o_skip F172 rfl (unwanted_guard rfl rfl rfl F172 rfl rfl rfl) rfl rfl ?_
    intro a173 F174; clear F172
    refine ⟨fun _ _ => ⟨(Ext.refl w14), b21⟩, ?_⟩
    refine qk 27 F174 rfl rfl fun _ F176 => ?_; clear F174
    refine qp 28 (.bool true) F176 rfl rfl (fun W => (rn_pickT (c_true F176 rfl rfl) rfl)) fun _ F178 => ?_; clear F176
    refine any_nil (by decide +kernel) ?_
    refine hK13 _ _ ?_
    clear hK13
    have F179 := ((((F178.nil.c F178 31 rfl).c F178 2 rfl).c F178 1 rfl).c F178 0 rfl)
    clear F178
    refine wp_cond_true (c_true F179 rfl rfl) ?_
    refine wp_seq_k (fun K180 hK180 => ?_)
    refine wp_region_lit ?_
    refine qv 0 (.int .i64 1) F179 rfl (rn_assign rfl) fun _ F182 => ?_; clear F179
    refine wpList_nil ?_
    refine hK180 _ _ ?_
    clear hK180
    refine wp_ret ?_
    refine ret_then ?_
    refine ret1 F182 rfl rfl ?_
    exact ⟨by rw [Lg.check_bad m R s (by omega)], (((Ext.refl w).trans hx5).trans hx15)⟩
   ·skip
    refine qp 14 (.pointer (some ⟨g2, 2, none⟩)) F147 rfl (wanted_guard rfl rfl rfl F147 rfl (decide_eq_false hc148) rfl) (fun W => (rn_field Try.underlying29 rfl (by kernel_rfl) (F147.get rfl) rfl)) fun _ F184 => ?_; clear F147
    refine qs 15 (.int .i64 s) F184 rfl (wanted_guard rfl rfl rfl F184 rfl (decide_eq_false hc148) rfl) hS20 (fun W hW => (rn_load (isAgg_no Try.underlying3 rfl) (F184.get rfl) (hW.2.rule.1 2))) fun _ F186 => ?_; clear F184
    refine qp 16 (.pointer (some ⟨g2, 1, none⟩)) F186 rfl (wanted_guard rfl rfl rfl F186 rfl (decide_eq_false hc148) rfl) (fun W => (rn_field Try.underlying29 rfl (by kernel_rfl) (F186.get rfl) rfl)) fun _ F188 => ?_; clear F186
    refine qs 17 (.slice A R.length c) F188 rfl (wanted_guard rfl rfl rfl F188 rfl (decide_eq_false hc148) rfl) hS20 (fun W hW => (rn_load (isAgg_no Try.underlying22 rfl) (F188.get rfl) (hW.2.rule.1 1))) fun _ F190 => ?_; clear F188
    refine qp 18 (.int .i64 (R.length : Nat)) F190 rfl (wanted_guard rfl rfl rfl F190 rfl (decide_eq_false hc148) rfl) (fun W => (rn_len_slice Try.underlying22 (F190.get rfl))) fun _ F192 => ?_; clear F190
    refine qp 19 (.bool (decide (((R.length : Nat) : Int) < (s : Int)))) F192 rfl (wanted_guard rfl rfl rfl F192 rfl (decide_eq_false hc148) rfl) (fun W => (rn_gtr (F192.get rfl) (F192.get rfl))) fun _ F194 => ?_; clear F192
    refine qp 20 (.bool (decide (((R.length : Nat) : Int) < (s : Int)))) F194 rfl rfl (fun W => (rn_pickF (c_false F194 rfl (decide_eq_false hc148)) (F194.get rfl))) fun _ F196 => ?_; clear F194
    refine qp 21 (.bool (decide (((R.length : Nat) : Int) < (s : Int)))) F196 rfl rfl (fun W => (rn_move (F196.get rfl))) fun _ F198 => ?_; clear F196
    by_cases hc199 : ((R.length : Nat) : Int) < (s : Int)
    ·skip
     refine qk 22 F198 rfl (decide_eq_true hc199) fun _ F201 => ?_; clear F198
     refine qk 23 F201 rfl (decide_eq_true hc199) fun _ F203 => ?_; clear F201
     refine qk 25 F203 rfl (decide_eq_true hc199) fun _ F205 => ?_; clear F203
     refine qk 26 F205 rfl (decide_eq_true hc199) fun _ F207 => ?_; clear F205
     refine any_one (i := 24) (by decide +kernel) rfl ?_
     refine o_skip F207 rfl (unwanted_guard rfl rfl rfl F207 rfl (decide_eq_true hc199) rfl) rfl rfl ?_
     intro a208 F209; clear F207
     refine ⟨fun _ _ => ⟨(Ext.refl w14), b21⟩, ?_⟩
     refine qk 27 F209 rfl (decide_eq_true hc199) fun _ F211 => ?_; clear F209
     refine qp 28 (.bool true) F211 rfl rfl (fun W => (rn_pickT (c_true F211 rfl (decide_eq_true hc199)) rfl)) fun _ F213 => ?_; clear F211
     refine any_nil (by decide +kernel) ?_
     refine hK13 _ _ ?_
     clear hK13
     have F214 := ((((F213.nil.c F213 31 rfl).c F213 2 rfl).c F213 1 rfl).c F213 0 rfl)
     clear F213
     refine wp_cond_true (c_true F214 rfl rfl) ?_
     refine wp_seq_k (fun K215 hK215 => ?_)
     refine wp_region_lit ?_
     refine qv 0 (.int .i64 1) F214 rfl (rn_assign rfl) fun _ F217 => ?_; clear F214
     refine wpList_nil ?_
     refine hK215 _ _ ?_
     clear hK215
     refine wp_ret ?_
     refine ret_then ?_
     refine ret1 F217 rfl rfl ?_
     exact ⟨by rw [Lg.check_bad m R s (by omega)], (((Ext.refl w).trans hx5).trans hx15)⟩
    ·skip
     refine qp 22 (.pointer (some ⟨g2, 1, none⟩)) F198 rfl (wanted_guard rfl rfl rfl F198 rfl (decide_eq_false hc199) rfl) (fun W => (rn_field Try.underlying29 rfl (by kernel_rfl) (F198.get rfl) rfl)) fun _ F219 => ?_; clear F198
     refine qs 23 (.slice A R.length c) F219 rfl (wanted_guard rfl rfl rfl F219 rfl (decide_eq_false hc199) rfl) hS20 (fun W hW => (rn_load (isAgg_no Try.underlying22 rfl) (F219.get rfl) (hW.2.rule.1 1))) fun _ F221 => ?_; clear F219
     refine qp 25 (.pointer (some ⟨g2, 0, none⟩)) F221 rfl (wanted_guard rfl rfl rfl F221 rfl (decide_eq_false hc199) rfl) (fun W => (rn_field Try.underlying29 rfl (by kernel_rfl) (F221.get rfl) rfl)) fun _ F223 => ?_; clear F221
     refine qs 26 (.int .i64 m) F223 rfl (wanted_guard rfl rfl rfl F223 rfl (decide_eq_false hc199) rfl) hS20 (fun W hW => (rn_load (isAgg_no Try.underlying3 rfl) (F223.get rfl) (hW.2.rule.1 0))) fun _ F225 => ?_; clear F223
     refine any_one (i := 24) (by decide +kernel) rfl ?_
     have d226 := ((hnc.ext hx5).ext hx15)
     refine o_call F225 rfl (wanted_guard rfl rfl rfl F225 rfl (decide_eq_false hc199) rfl) rfl rfl (rn_call (args1 (F225.get rfl)) rfl (by kernel_rfl)) (used_at (v := (.slice A R.length c)) R _ d226 hb) ?_
     rintro _ w227 ⟨rfl, hx228⟩
     refine ⟨_, rfl, ?_⟩; intro a229 F230; clear F225; have z231 := hx228.size
     have b232 := (b21.ext hx228)
     refine ⟨fun _ _ => ⟨((Ext.refl w14).trans hx228), b232⟩, ?_⟩
     refine qp 27 (.bool (decide ((m : Int) < ((usedW R) : Int)))) F230 rfl (wanted_guard rfl rfl rfl F230 rfl (decide_eq_false hc199) rfl) (fun W => (rn_gtr (F230.get rfl) (F230.get rfl))) fun _ F234 => ?_; clear F230
     refine qp 28 (.bool (decide ((m : Int) < ((usedW R) : Int)))) F234 rfl rfl (fun W => (rn_pickF (c_false F234 rfl (decide_eq_false hc199)) (F234.get rfl))) fun _ F236 => ?_; clear F234
     refine any_nil (by decide +kernel) ?_
     refine hK13 _ _ ?_
     clear hK13
     have F237 := ((((F236.nil.c F236 31 rfl).c F236 2 rfl).c F236 1 rfl).c F236 0 rfl)
     clear F236
     by_cases hc238 : (m : Int) < ((usedW R) : Int)
     ·skip
      refine wp_cond_true (c_true F237 rfl (decide_eq_true hc238)) ?_
      refine wp_seq_k (fun K239 hK239 => ?_)
      refine wp_region_lit ?_
      refine qv 0 (.int .i64 1) F237 rfl (rn_assign rfl) fun _ F241 => ?_; clear F237
      refine wpList_nil ?_
      refine hK239 _ _ ?_
      clear hK239
      refine wp_ret ?_
      refine ret_then ?_
      refine ret1 F241 rfl rfl ?_
      exact ⟨by rw [Lg.check_bad m R s (by omega)], ((((Ext.refl w).trans hx5).trans hx15).trans hx228)⟩
     ·skip
      refine wp_cond_false (c_false F237 rfl (decide_eq_false hc238)) ?_
      refine wp_skip ?_
      refine hK12 _ _ ?_
      clear hK12
      refine wp_seq_k (fun K242 hK242 => ?_)
      refine wp_region_lit ?_
      refine qv 0 (.int .i64 0) F237 rfl (rn_assign rfl) fun _ F244 => ?_; clear F237
      refine wpList_nil ?_
      refine hK242 _ _ ?_
      clear hK242
      refine wp_ret ?_
      refine ret1 F244 rfl rfl ?_
      exact ⟨by rw [Lg.check_ok m R s (by omega)], ((((Ext.refl w).trans hx5).trans hx15).trans hx228)⟩

theorem chk_at {v : Value} (m : Int) (R : List (List UInt8)) (s : Int) (w : World) (hn : RBss S w v R) (hb : ∀ x ∈ R, x.length ≤ 140737488355328) :
  Calls Try.prog 17 #[.agg #[.int .i64 m, v, .int .i64 s]] w (fun e w' => e = .returned (.int .i64 (Lg.mk m R s).check) ∧ Ext w w') := by
 obtain ⟨A, c, rfl, _⟩ := hn.form
 exact chk_any m A c R s w hn hb

set_option maxRecDepth 100000 in
set_option maxHeartbeats 1000000 in
theorem rchk_any (m : Int) (A : Option Addr) (c : Nat) (R : List (List UInt8)) (s : Int) (w : World) (hn : RBss S w (.slice A R.length c) R) (hb : ∀ x ∈ R, x.length ≤ 140737488355328) :
  Calls Try.prog 18 #[.agg #[.int .i64 m, .slice A R.length c, .int .i64 s]] w (fun e w' => e = .returned (.int .i64 (Lg.mk m R s).check) ∧ Ext w w') := by
 have hnc := RBss.clip hn
 obtain ⟨-, hcR1, hcR2⟩ := RBss.at hn
 refine calls_enter (l := [(.agg #[(.int .i64 m), (.slice A R.length c), (.int .i64 s)])]) Try.func18 rfl rfl rfl (fun aA hF => ?_)
 refine wp_seq_k (fun K1 hK1 => ?_)
 refine wp_region_lit ?_
 refine wpl_op (i := 0) rfl (o_new (fun g => (.pointer (some ⟨g, 0, none⟩))) [(.int .i64 m), (.slice A R.length c), (.int .i64 s)] 29 hF rfl rfl rfl rfl (rn_box (hF.get rfl) (by kernel_rfl)) ?_)
 intro g2 w3 a8 F9 z6 z7 b4 hx5; clear hF
 refine qv 1 (.int .i64 0) F9 rfl (rn_assign rfl) fun _ F11 => ?_; clear F9
 refine wpList_nil ?_
 refine hK1 _ _ ?_
 clear hK1
 refine wp_seq_k (fun K12 hK12 => ?_)
 refine wp_seq_k (fun K13 hK13 => ?_)
 have hx15 : ∃ W, w3.drew = W ∧ Ext w3 W := ⟨_, rfl, (Ext.refl _).drew⟩
 obtain ⟨w14, e16, hx15⟩ := hx15
 have z17 := hx15.size
 refine any_start (fun W => Ext w14 W ∧ Blk W g2 29 [(.int .i64 m), (.slice A R.length c), (.int .i64 s)]) (fun i => false) 29 #[false, false, false, false, false, false, false, false, false, false, false, false, false, false, false, false, false, false, false, false, false, false, false, false, false, false, false, false, false] rfl rfl rfl ?_
 rw [e16]; clear e16
 refine qp 0 (.pointer (some ⟨g2, 0, none⟩)) F11 rfl rfl (fun W => (rn_field Try.underlying29 rfl (by kernel_rfl) (F11.get rfl) rfl)) fun _ F19 => ?_; clear F11
 have b21 := (b4.ext hx15)
 have hS20 : Ext w14 w14 ∧ Blk w14 g2 29 [(.int .i64 m), (.slice A R.length c), (.int .i64 s)] := ⟨(Ext.refl w14), b21⟩
 refine qs 1 (.int .i64 m) F19 rfl rfl hS20 (fun W hW => (rn_load (isAgg_no Try.underlying3 rfl) (F19.get rfl) (hW.2.rule.1 0))) fun _ F23 => ?_; clear F19
 refine qp 2 (.bool (decide ((m : Int) < (1 : Int)))) F23 rfl rfl (fun W => (rn_lss (F23.get rfl) rfl)) fun _ F25 => ?_; clear F23
 refine qp 3 (.bool (decide ((m : Int) < (1 : Int)))) F25 rfl rfl (fun W => (rn_move (F25.get rfl))) fun _ F27 => ?_; clear F25
 by_cases hc28 : (m : Int) < (1 : Int)
 ·skip
  refine qk 4 F27 rfl (decide_eq_true hc28) fun _ F30 => ?_; clear F27
  refine qk 5 F30 rfl (decide_eq_true hc28) fun _ F32 => ?_; clear F30
  refine qk 6 F32 rfl (decide_eq_true hc28) fun _ F34 => ?_; clear F32
  refine qp 7 (.bool true) F34 rfl rfl (fun W => (rn_pickT (c_true F34 rfl (decide_eq_true hc28)) rfl)) fun _ F36 => ?_; clear F34
  refine qp 8 (.bool true) F36 rfl rfl (fun W => (rn_move (F36.get rfl))) fun _ F38 => ?_; clear F36
  refine qk 9 F38 rfl rfl fun _ F40 => ?_; clear F38
  refine qk 10 F40 rfl rfl fun _ F42 => ?_; clear F40
  refine qk 11 F42 rfl rfl fun _ F44 => ?_; clear F42
  refine qp 12 (.bool true) F44 rfl rfl (fun W => (rn_pickT (c_true F44 rfl rfl) rfl)) fun _ F46 => ?_; clear F44
  refine qp 13 (.bool true) F46 rfl rfl (fun W => (rn_move (F46.get rfl))) fun _ F48 => ?_; clear F46
  refine qk 14 F48 rfl rfl fun _ F50 => ?_; clear F48
  refine qk 15 F50 rfl rfl fun _ F52 => ?_; clear F50
  refine qk 16 F52 rfl rfl fun _ F54 => ?_; clear F52
  refine qk 17 F54 rfl rfl fun _ F56 => ?_; clear F54
  refine qk 18 F56 rfl rfl fun _ F58 => ?_; clear F56
  refine qk 19 F58 rfl rfl fun _ F60 => ?_; clear F58
  refine qp 20 (.bool true) F60 rfl rfl (fun W => (rn_pickT (c_true F60 rfl rfl) rfl)) fun _ F62 => ?_; clear F60
  refine qp 21 (.bool true) F62 rfl rfl (fun W => (rn_move (F62.get rfl))) fun _ F64 => ?_; clear F62
  refine qk 22 F64 rfl rfl fun _ F66 => ?_; clear F64
  refine qk 23 F66 rfl rfl fun _ F68 => ?_; clear F66
  refine qk 25 F68 rfl rfl fun _ F70 => ?_; clear F68
  refine qk 26 F70 rfl rfl fun _ F72 => ?_; clear F70
  refine any_one (i := 24) (by decide +kernel) rfl ?_
  refine o_skip F72 rfl (unwanted_guard rfl rfl rfl F72 rfl rfl rfl) rfl rfl ?_
  intro a73 F74; clear F72
  refine ⟨fun _ _ => ⟨(Ext.refl w14), b21⟩, ?_⟩
  refine qk 27 F74 rfl rfl fun _ F76 => ?_; clear F74
  refine qp 28 (.bool true) F76 rfl rfl (fun W => (rn_pickT (c_true F76 rfl rfl) rfl)) fun _ F78 => ?_; clear F76
  refine any_nil (by decide +kernel) ?_
  refine hK13 _ _ ?_
  clear hK13
  have F79 := ((((F78.nil.c F78 31 rfl).c F78 2 rfl).c F78 1 rfl).c F78 0 rfl)
  clear F78
  refine wp_cond_true (c_true F79 rfl rfl) ?_
  refine wp_seq_k (fun K80 hK80 => ?_)
  refine wp_region_lit ?_
  refine qv 0 (.int .i64 1) F79 rfl (rn_assign rfl) fun _ F82 => ?_; clear F79
  refine wpList_nil ?_
  refine hK80 _ _ ?_
  clear hK80
  refine wp_ret ?_
  refine ret_then ?_
  refine ret1 F82 rfl rfl ?_
  exact ⟨by rw [Lg.check_bad m R s (by omega)], (((Ext.refl w).trans hx5).trans hx15)⟩
 ·skip
  refine qp 4 (.pointer (some ⟨g2, 0, none⟩)) F27 rfl (wanted_guard rfl rfl rfl F27 rfl (decide_eq_false hc28) rfl) (fun W => (rn_field Try.underlying29 rfl (by kernel_rfl) (F27.get rfl) rfl)) fun _ F84 => ?_; clear F27
  refine qs 5 (.int .i64 m) F84 rfl (wanted_guard rfl rfl rfl F84 rfl (decide_eq_false hc28) rfl) hS20 (fun W hW => (rn_load (isAgg_no Try.underlying3 rfl) (F84.get rfl) (hW.2.rule.1 0))) fun _ F86 => ?_; clear F84
  refine qp 6 (.bool (decide ((4096 : Int) < (m : Int)))) F86 rfl (wanted_guard rfl rfl rfl F86 rfl (decide_eq_false hc28) rfl) (fun W => (rn_gtr (F86.get rfl) rfl)) fun _ F88 => ?_; clear F86
  refine qp 7 (.bool (decide ((4096 : Int) < (m : Int)))) F88 rfl rfl (fun W => (rn_pickF (c_false F88 rfl (decide_eq_false hc28)) (F88.get rfl))) fun _ F90 => ?_; clear F88
  refine qp 8 (.bool (decide ((4096 : Int) < (m : Int)))) F90 rfl rfl (fun W => (rn_move (F90.get rfl))) fun _ F92 => ?_; clear F90
  by_cases hc93 : (4096 : Int) < (m : Int)
  ·skip
   refine qk 9 F92 rfl (decide_eq_true hc93) fun _ F95 => ?_; clear F92
   refine qk 10 F95 rfl (decide_eq_true hc93) fun _ F97 => ?_; clear F95
   refine qk 11 F97 rfl (decide_eq_true hc93) fun _ F99 => ?_; clear F97
   refine qp 12 (.bool true) F99 rfl rfl (fun W => (rn_pickT (c_true F99 rfl (decide_eq_true hc93)) rfl)) fun _ F101 => ?_; clear F99
   refine qp 13 (.bool true) F101 rfl rfl (fun W => (rn_move (F101.get rfl))) fun _ F103 => ?_; clear F101
   refine qk 14 F103 rfl rfl fun _ F105 => ?_; clear F103
   refine qk 15 F105 rfl rfl fun _ F107 => ?_; clear F105
   refine qk 16 F107 rfl rfl fun _ F109 => ?_; clear F107
   refine qk 17 F109 rfl rfl fun _ F111 => ?_; clear F109
   refine qk 18 F111 rfl rfl fun _ F113 => ?_; clear F111
   refine qk 19 F113 rfl rfl fun _ F115 => ?_; clear F113
   refine qp 20 (.bool true) F115 rfl rfl (fun W => (rn_pickT (c_true F115 rfl rfl) rfl)) fun _ F117 => ?_; clear F115
   refine qp 21 (.bool true) F117 rfl rfl (fun W => (rn_move (F117.get rfl))) fun _ F119 => ?_; clear F117
   refine qk 22 F119 rfl rfl fun _ F121 => ?_; clear F119
   refine qk 23 F121 rfl rfl fun _ F123 => ?_; clear F121
   refine qk 25 F123 rfl rfl fun _ F125 => ?_; clear F123
   refine qk 26 F125 rfl rfl fun _ F127 => ?_; clear F125
   refine any_one (i := 24) (by decide +kernel) rfl ?_
   refine o_skip F127 rfl (unwanted_guard rfl rfl rfl F127 rfl rfl rfl) rfl rfl ?_
   intro a128 F129; clear F127
   refine ⟨fun _ _ => ⟨(Ext.refl w14), b21⟩, ?_⟩
   refine qk 27 F129 rfl rfl fun _ F131 => ?_; clear F129
   refine qp 28 (.bool true) F131 rfl rfl (fun W => (rn_pickT (c_true F131 rfl rfl) rfl)) fun _ F133 => ?_; clear F131
   refine any_nil (by decide +kernel) ?_
   refine hK13 _ _ ?_
   clear hK13
   have F134 := ((((F133.nil.c F133 31 rfl).c F133 2 rfl).c F133 1 rfl).c F133 0 rfl)
   clear F133
   refine wp_cond_true (c_true F134 rfl rfl) ?_
   refine wp_seq_k (fun K135 hK135 => ?_)
   refine wp_region_lit ?_
   refine qv 0 (.int .i64 1) F134 rfl (rn_assign rfl) fun _ F137 => ?_; clear F134
   refine wpList_nil ?_
   refine hK135 _ _ ?_
   clear hK135
   refine wp_ret ?_
   refine ret_then ?_
   refine ret1 F137 rfl rfl ?_
   exact ⟨by rw [Lg.check_bad m R s (by omega)], (((Ext.refl w).trans hx5).trans hx15)⟩
  ·skip
   refine qp 9 (.pointer (some ⟨g2, 2, none⟩)) F92 rfl (wanted_guard rfl rfl rfl F92 rfl (decide_eq_false hc93) rfl) (fun W => (rn_field Try.underlying29 rfl (by kernel_rfl) (F92.get rfl) rfl)) fun _ F139 => ?_; clear F92
   refine qs 10 (.int .i64 s) F139 rfl (wanted_guard rfl rfl rfl F139 rfl (decide_eq_false hc93) rfl) hS20 (fun W hW => (rn_load (isAgg_no Try.underlying3 rfl) (F139.get rfl) (hW.2.rule.1 2))) fun _ F141 => ?_; clear F139
   refine qp 11 (.bool (decide ((s : Int) < (0 : Int)))) F141 rfl (wanted_guard rfl rfl rfl F141 rfl (decide_eq_false hc93) rfl) (fun W => (rn_lss (F141.get rfl) rfl)) fun _ F143 => ?_; clear F141
   refine qp 12 (.bool (decide ((s : Int) < (0 : Int)))) F143 rfl rfl (fun W => (rn_pickF (c_false F143 rfl (decide_eq_false hc93)) (F143.get rfl))) fun _ F145 => ?_; clear F143
   refine qp 13 (.bool (decide ((s : Int) < (0 : Int)))) F145 rfl rfl (fun W => (rn_move (F145.get rfl))) fun _ F147 => ?_; clear F145
   by_cases hc148 : (s : Int) < (0 : Int)
   ·skip
    refine qk 14 F147 rfl (decide_eq_true hc148) fun _ F150 => ?_; clear F147
    refine qk 15 F150 rfl (decide_eq_true hc148) fun _ F152 => ?_; clear F150
    refine qk 16 F152 rfl (decide_eq_true hc148) fun _ F154 => ?_; clear F152
    refine qk 17 F154 rfl (decide_eq_true hc148) fun _ F156 => ?_; clear F154
    refine qk 18 F156 rfl (decide_eq_true hc148) fun _ F158 => ?_; clear F156
    refine qk 19 F158 rfl (decide_eq_true hc148) fun _ F160 => ?_; clear F158
    refine qp 20 (.bool true) F160 rfl rfl (fun W => (rn_pickT (c_true F160 rfl (decide_eq_true hc148)) rfl)) fun _ F162 => ?_; clear F160
    refine qp 21 (.bool true) F162 rfl rfl (fun W => (rn_move (F162.get rfl))) fun _ F164 => ?_; clear F162
    refine qk 22 F164 rfl rfl fun _ F166 => ?_; clear F164
    refine qk 23 F166 rfl rfl fun _ F168 => ?_; clear F166
    refine qk 25 F168 rfl rfl fun _ F170 => ?_; clear F168
    refine qk 26 F170 rfl rfl fun _ F172 => ?_; clear F170
    refine any_one (i := 24) (by decide +kernel) rfl ?_
    refine o_skip F172 rfl (unwanted_guard rfl rfl rfl F172 rfl rfl rfl) rfl rfl ?_
    intro a173 F174; clear F172
    refine ⟨fun _ _ => ⟨(Ext.refl w14), b21⟩, ?_⟩
    refine qk 27 F174 rfl rfl fun _ F176 => ?_; clear F174
    refine qp 28 (.bool true) F176 rfl rfl (fun W => (rn_pickT (c_true F176 rfl rfl) rfl)) fun _ F178 => ?_; clear F176
    refine any_nil (by decide +kernel) ?_
    refine hK13 _ _ ?_
    clear hK13
    have F179 := ((((F178.nil.c F178 31 rfl).c F178 2 rfl).c F178 1 rfl).c F178 0 rfl)
    clear F178
    refine wp_cond_true (c_true F179 rfl rfl) ?_
    refine wp_seq_k (fun K180 hK180 => ?_)
    refine wp_region_lit ?_
    refine qv 0 (.int .i64 1) F179 rfl (rn_assign rfl) fun _ F182 => ?_; clear F179
    refine wpList_nil ?_
    refine hK180 _ _ ?_
    clear hK180
    refine wp_ret ?_
    refine ret_then ?_
    refine ret1 F182 rfl rfl ?_
    exact ⟨by rw [Lg.check_bad m R s (by omega)], (((Ext.refl w).trans hx5).trans hx15)⟩
   ·skip
    refine qp 14 (.pointer (some ⟨g2, 2, none⟩)) F147 rfl (wanted_guard rfl rfl rfl F147 rfl (decide_eq_false hc148) rfl) (fun W => (rn_field Try.underlying29 rfl (by kernel_rfl) (F147.get rfl) rfl)) fun _ F184 => ?_; clear F147
    refine qs 15 (.int .i64 s) F184 rfl (wanted_guard rfl rfl rfl F184 rfl (decide_eq_false hc148) rfl) hS20 (fun W hW => (rn_load (isAgg_no Try.underlying3 rfl) (F184.get rfl) (hW.2.rule.1 2))) fun _ F186 => ?_; clear F184
    refine qp 16 (.pointer (some ⟨g2, 1, none⟩)) F186 rfl (wanted_guard rfl rfl rfl F186 rfl (decide_eq_false hc148) rfl) (fun W => (rn_field Try.underlying29 rfl (by kernel_rfl) (F186.get rfl) rfl)) fun _ F188 => ?_; clear F186
    refine qs 17 (.slice A R.length c) F188 rfl (wanted_guard rfl rfl rfl F188 rfl (decide_eq_false hc148) rfl) hS20 (fun W hW => (rn_load (isAgg_no Try.underlying22 rfl) (F188.get rfl) (hW.2.rule.1 1))) fun _ F190 => ?_; clear F188
    refine qp 18 (.int .i64 (R.length : Nat)) F190 rfl (wanted_guard rfl rfl rfl F190 rfl (decide_eq_false hc148) rfl) (fun W => (rn_len_slice Try.underlying22 (F190.get rfl))) fun _ F192 => ?_; clear F190
    refine qp 19 (.bool (decide (((R.length : Nat) : Int) < (s : Int)))) F192 rfl (wanted_guard rfl rfl rfl F192 rfl (decide_eq_false hc148) rfl) (fun W => (rn_gtr (F192.get rfl) (F192.get rfl))) fun _ F194 => ?_; clear F192
    refine qp 20 (.bool (decide (((R.length : Nat) : Int) < (s : Int)))) F194 rfl rfl (fun W => (rn_pickF (c_false F194 rfl (decide_eq_false hc148)) (F194.get rfl))) fun _ F196 => ?_; clear F194
    refine qp 21 (.bool (decide (((R.length : Nat) : Int) < (s : Int)))) F196 rfl rfl (fun W => (rn_move (F196.get rfl))) fun _ F198 => ?_; clear F196
    by_cases hc199 : ((R.length : Nat) : Int) < (s : Int)
    ·skip
     refine qk 22 F198 rfl (decide_eq_true hc199) fun _ F201 => ?_; clear F198
     refine qk 23 F201 rfl (decide_eq_true hc199) fun _ F203 => ?_; clear F201
     refine qk 25 F203 rfl (decide_eq_true hc199) fun _ F205 => ?_; clear F203
     refine qk 26 F205 rfl (decide_eq_true hc199) fun _ F207 => ?_; clear F205
     refine any_one (i := 24) (by decide +kernel) rfl ?_
     refine o_skip F207 rfl (unwanted_guard rfl rfl rfl F207 rfl (decide_eq_true hc199) rfl) rfl rfl ?_
     intro a208 F209; clear F207
     refine ⟨fun _ _ => ⟨(Ext.refl w14), b21⟩, ?_⟩
     refine qk 27 F209 rfl (decide_eq_true hc199) fun _ F211 => ?_; clear F209
     refine qp 28 (.bool true) F211 rfl rfl (fun W => (rn_pickT (c_true F211 rfl (decide_eq_true hc199)) rfl)) fun _ F213 => ?_; clear F211
     refine any_nil (by decide +kernel) ?_
     refine hK13 _ _ ?_
     clear hK13
     have F214 := ((((F213.nil.c F213 31 rfl).c F213 2 rfl).c F213 1 rfl).c F213 0 rfl)
     clear F213
     refine wp_cond_true (c_true F214 rfl rfl) ?_
     refine wp_seq_k (fun K215 hK215 => ?_)
     refine wp_region_lit ?_
     refine qv 0 (.int .i64 1) F214 rfl (rn_assign rfl) fun _ F217 => ?_; clear F214
     refine wpList_nil ?_
     refine hK215 _ _ ?_
     clear hK215
     refine wp_ret ?_
     refine ret_then ?_
     refine ret1 F217 rfl rfl ?_
     exact ⟨by rw [Lg.check_bad m R s (by omega)], (((Ext.refl w).trans hx5).trans hx15)⟩
    ·skip
     refine qp 22 (.pointer (some ⟨g2, 1, none⟩)) F198 rfl (wanted_guard rfl rfl rfl F198 rfl (decide_eq_false hc199) rfl) (fun W => (rn_field Try.underlying29 rfl (by kernel_rfl) (F198.get rfl) rfl)) fun _ F219 => ?_; clear F198
     refine qs 23 (.slice A R.length c) F219 rfl (wanted_guard rfl rfl rfl F219 rfl (decide_eq_false hc199) rfl) hS20 (fun W hW => (rn_load (isAgg_no Try.underlying22 rfl) (F219.get rfl) (hW.2.rule.1 1))) fun _ F221 => ?_; clear F219
     refine qp 25 (.pointer (some ⟨g2, 0, none⟩)) F221 rfl (wanted_guard rfl rfl rfl F221 rfl (decide_eq_false hc199) rfl) (fun W => (rn_field Try.underlying29 rfl (by kernel_rfl) (F221.get rfl) rfl)) fun _ F223 => ?_; clear F221
     refine qs 26 (.int .i64 m) F223 rfl (wanted_guard rfl rfl rfl F223 rfl (decide_eq_false hc199) rfl) hS20 (fun W hW => (rn_load (isAgg_no Try.underlying3 rfl) (F223.get rfl) (hW.2.rule.1 0))) fun _ F225 => ?_; clear F223
     refine any_one (i := 24) (by decide +kernel) rfl ?_
     have d226 := ((hnc.ext hx5).ext hx15)
     refine o_call F225 rfl (wanted_guard rfl rfl rfl F225 rfl (decide_eq_false hc199) rfl) rfl rfl (rn_call (args1 (F225.get rfl)) rfl (by kernel_rfl)) (rused_at (v := (.slice A R.length c)) R _ d226 hb) ?_
     rintro _ w227 ⟨rfl, hx228⟩
     refine ⟨_, rfl, ?_⟩; intro a229 F230; clear F225; have z231 := hx228.size
     have b232 := (b21.ext hx228)
     refine ⟨fun _ _ => ⟨((Ext.refl w14).trans hx228), b232⟩, ?_⟩
     refine qp 27 (.bool (decide ((m : Int) < ((usedW R) : Int)))) F230 rfl (wanted_guard rfl rfl rfl F230 rfl (decide_eq_false hc199) rfl) (fun W => (rn_gtr (F230.get rfl) (F230.get rfl))) fun _ F234 => ?_; clear F230
     refine qp 28 (.bool (decide ((m : Int) < ((usedW R) : Int)))) F234 rfl rfl (fun W => (rn_pickF (c_false F234 rfl (decide_eq_false hc199)) (F234.get rfl))) fun _ F236 => ?_; clear F234
     refine any_nil (by decide +kernel) ?_
     refine hK13 _ _ ?_
     clear hK13
     have F237 := ((((F236.nil.c F236 31 rfl).c F236 2 rfl).c F236 1 rfl).c F236 0 rfl)
     clear F236
     by_cases hc238 : (m : Int) < ((usedW R) : Int)
     ·skip
      refine wp_cond_true (c_true F237 rfl (decide_eq_true hc238)) ?_
      refine wp_seq_k (fun K239 hK239 => ?_)
      refine wp_region_lit ?_
      refine qv 0 (.int .i64 1) F237 rfl (rn_assign rfl) fun _ F241 => ?_; clear F237
      refine wpList_nil ?_
      refine hK239 _ _ ?_
      clear hK239
      refine wp_ret ?_
      refine ret_then ?_
      refine ret1 F241 rfl rfl ?_
      exact ⟨by rw [Lg.check_bad m R s (by omega)], ((((Ext.refl w).trans hx5).trans hx15).trans hx228)⟩
     ·skip
      refine wp_cond_false (c_false F237 rfl (decide_eq_false hc238)) ?_
      refine wp_skip ?_
      refine hK12 _ _ ?_
      clear hK12
      refine wp_seq_k (fun K242 hK242 => ?_)
      refine wp_region_lit ?_
      refine qv 0 (.int .i64 0) F237 rfl (rn_assign rfl) fun _ F244 => ?_; clear F237
      refine wpList_nil ?_
      refine hK242 _ _ ?_
      clear hK242
      refine wp_ret ?_
      refine ret1 F244 rfl rfl ?_
      exact ⟨by rw [Lg.check_ok m R s (by omega)], ((((Ext.refl w).trans hx5).trans hx15).trans hx228)⟩

theorem rchk_at {v : Value} (m : Int) (R : List (List UInt8)) (s : Int) (w : World) (hn : RBss S w v R) (hb : ∀ x ∈ R, x.length ≤ 140737488355328) :
  Calls Try.prog 18 #[.agg #[.int .i64 m, v, .int .i64 s]] w (fun e w' => e = .returned (.int .i64 (Lg.mk m R s).check) ∧ Ext w w') := by
 obtain ⟨A, c, rfl, _⟩ := hn.form
 exact rchk_any m A c R s w hn hb

set_option maxRecDepth 100000 in
set_option maxHeartbeats 1000000 in
theorem room_any (m : Int) (A : Option Addr) (c : Nat) (R : List (List UInt8)) (s : Int) (w : World) (hn : RBss S w (.slice A R.length c) R) (hb : ∀ x ∈ R, x.length ≤ 140737488355328) :
  Calls Try.prog 19 #[.agg #[.int .i64 m, .slice A R.length c, .int .i64 s]] w (fun e w' => e = .returned (.int .i64 (Lg.mk m R s).room) ∧ Ext w w') := by
 have hnc := RBss.clip hn
 obtain ⟨-, hcR1, hcR2⟩ := RBss.at hn
 refine calls_enter (l := [(.agg #[(.int .i64 m), (.slice A R.length c), (.int .i64 s)])]) Try.func19 rfl rfl rfl (fun aA hF => ?_)
 refine wp_seq_k (fun K1 hK1 => ?_)
 refine wp_region_lit ?_
 refine wpl_op (i := 0) rfl (o_new (fun g => (.pointer (some ⟨g, 0, none⟩))) [(.int .i64 m), (.slice A R.length c), (.int .i64 s)] 29 hF rfl rfl rfl rfl (rn_box (hF.get rfl) (by kernel_rfl)) ?_)
 intro g2 w3 a8 F9 z6 z7 b4 hx5; clear hF
 refine qv 1 (.int .i64 0) F9 rfl (rn_assign rfl) fun _ F11 => ?_; clear F9
 refine wpList_nil ?_
 refine hK1 _ _ ?_
 clear hK1
 refine wp_seq_k (fun K12 hK12 => ?_)
 refine wp_seq_k (fun K13 hK13 => ?_)
 refine wp_region_lit ?_
 refine qv 0 (.agg #[(.int .i64 m), (.slice A R.length c), (.int .i64 s)]) F11 rfl (rn_loadBlk (F11.get rfl) b4 Try.underlying29 rfl inf29) fun _ F15 => ?_; clear F11
 have d16 := (hnc.ext hx5)
 refine wpl_op (i := 1) rfl (o_call F15 rfl rfl rfl rfl (rn_call (args1 (F15.get rfl)) rfl (by kernel_rfl)) (chk_at (v := (.slice A R.length c)) m R s _ d16 hb) ?_)
 rintro _ w17 ⟨rfl, hx18⟩
 refine ⟨_, rfl, ?_⟩; intro a19 F20; clear F15; have z21 := hx18.size
 refine qv 2 (.bool (decide (((Lg.mk m R s).check : Int) ≠ (0 : Int)))) F20 rfl (rn_neq (F20.get rfl) rfl) fun _ F23 => ?_; clear F20
 refine wpList_nil ?_
 refine hK13 _ _ ?_
 clear hK13
 by_cases hc24 : ((Lg.mk m R s).check : Int) ≠ (0 : Int)
 ·skip
  refine wp_cond_true (c_true F23 rfl (decide_eq_true hc24)) ?_
  refine wp_seq_k (fun K25 hK25 => ?_)
  refine wp_region_lit ?_
  refine qv 0 (.int .i64 0) F23 rfl (rn_assign rfl) fun _ F27 => ?_; clear F23
  refine wpList_nil ?_
  refine hK25 _ _ ?_
  clear hK25
  refine wp_ret ?_
  refine ret_then ?_
  refine ret1 F27 rfl rfl ?_
  exact ⟨by rw [Lg.room_bad (l := ⟨m, R, s⟩) (by omega)], (((Ext.refl w).trans hx5).trans hx18)⟩
 ·skip
  refine wp_cond_false (c_false F23 rfl (decide_eq_false hc24)) ?_
  refine wp_skip ?_
  refine hK12 _ _ ?_
  clear hK12
  refine wp_seq_k (fun K28 hK28 => ?_)
  have hx30 : ∃ W, w17.drew = W ∧ Ext w17 W := ⟨_, rfl, (Ext.refl _).drew⟩
  obtain ⟨w29, e31, hx30⟩ := hx30
  have z32 := hx30.size
  refine any_start (fun W => Ext w29 W ∧ Blk W g2 29 [(.int .i64 m), (.slice A R.length c), (.int .i64 s)]) (fun i => false) 8 #[false, false, false, false, false, false, false, false] rfl rfl rfl ?_
  rw [e31]; clear e31
  refine qp 0 (.pointer (some ⟨g2, 0, none⟩)) F23 rfl rfl (fun W => (rn_field Try.underlying29 rfl (by kernel_rfl) (F23.get rfl) rfl)) fun _ F34 => ?_; clear F23
  have b36 := ((b4.ext hx18).ext hx30)
  have hS35 : Ext w29 w29 ∧ Blk w29 g2 29 [(.int .i64 m), (.slice A R.length c), (.int .i64 s)] := ⟨(Ext.refl w29), b36⟩
  refine qs 1 (.int .i64 m) F34 rfl rfl hS35 (fun W hW => (rn_load (isAgg_no Try.underlying3 rfl) (F34.get rfl) (hW.2.rule.1 0))) fun _ F38 => ?_; clear F34
  refine qp 2 (.pointer (some ⟨g2, 1, none⟩)) F38 rfl rfl (fun W => (rn_field Try.underlying29 rfl (by kernel_rfl) (F38.get rfl) rfl)) fun _ F40 => ?_; clear F38
  refine qs 3 (.slice A R.length c) F40 rfl rfl hS35 (fun W hW => (rn_load (isAgg_no Try.underlying22 rfl) (F40.get rfl) (hW.2.rule.1 1))) fun _ F42 => ?_; clear F40
  refine any_one (i := 4) (by decide +kernel) rfl ?_
  have d43 := (((hnc.ext hx5).ext hx18).ext hx30)
  refine o_call F42 rfl rfl rfl rfl (rn_call (args1 (F42.get rfl)) rfl (by kernel_rfl)) (used_at (v := (.slice A R.length c)) R _ d43 hb) ?_
  rintro _ w44 ⟨rfl, hx45⟩
  refine ⟨_, rfl, ?_⟩; intro a46 F47; clear F42; have z48 := hx45.size
  have b49 := (b36.ext hx45)
  refine ⟨fun _ _ => ⟨((Ext.refl w29).trans hx45), b49⟩, ?_⟩
  refine qp 5 (.int .i64 (wrapI (m - (usedW R)))) F47 rfl rfl (fun W => (subW_ok (F47.get rfl) (F47.get rfl))) fun _ F51 => ?_; clear F47
  refine qp 6 (.int .i64 (wrapI (112 * (wrapI (m - (usedW R)))))) F51 rfl rfl (fun W => (mulW_ok rfl (F51.get rfl))) fun _ F53 => ?_; clear F51
  refine qp 7 (.int .i64 (wrapI (112 * (wrapI (m - (usedW R)))))) F53 rfl rfl (fun W => (rn_assign (F53.get rfl))) fun _ F55 => ?_; clear F53
  refine any_nil (by decide +kernel) ?_
  refine hK28 _ _ ?_
  clear hK28
  have F56 := ((((F55.nil.c F55 5 rfl).c F55 2 rfl).c F55 1 rfl).c F55 0 rfl)
  clear F55
  refine wp_ret ?_
  refine ret1 F56 rfl rfl ?_
  exact ⟨by rw [Lg.room_ok (l := ⟨m, R, s⟩) (by omega)]; rfl, (((((Ext.refl w).trans hx5).trans hx18).trans hx30).trans hx45)⟩

theorem room_at {v : Value} (m : Int) (R : List (List UInt8)) (s : Int) (w : World) (hn : RBss S w v R) (hb : ∀ x ∈ R, x.length ≤ 140737488355328) :
  Calls Try.prog 19 #[.agg #[.int .i64 m, v, .int .i64 s]] w (fun e w' => e = .returned (.int .i64 (Lg.mk m R s).room) ∧ Ext w w') := by
 obtain ⟨A, c, rfl, _⟩ := hn.form
 exact room_any m A c R s w hn hb

end Go.Proofs.Ytfmhnplkpohogaa

namespace Go.Proofs.Ytfmhnplkpohogaa
open Go.RowKit

variable {S S' : Nat → Prop}

set_option maxRecDepth 100000 in
set_option maxHeartbeats 1000000 in
theorem samer_any {S2 : Nat → Prop} (A : Option Addr) (c : Nat) (R : List (List UInt8)) (B : Option Addr) (e : Nat) (T : List (List UInt8)) (w : World) (hn : RBss S w (.slice A R.length c) R) (hb : ∀ x ∈ R, True) (hm : RBss S2 w (.slice B T.length e) T) :
  Calls Try.prog 24 #[.slice A R.length c, .slice B T.length e] w (fun e w' => e = .returned (.bool (decide (R = T))) ∧ Ext w w') := by
 have hnc := RBss.clip hn
 obtain ⟨-, hcR1, hcR2⟩ := RBss.at hn
 have hmc := RBss.clip hm
 obtain ⟨-, hmc1, hmc2⟩ := RBss.at hm
 refine calls_enter (l := [(.slice A R.length c), (.slice B T.length e)]) Try.func24 rfl rfl rfl (fun aA hF => ?_)
 refine wp_seq_k (fun K1 hK1 => ?_)
 refine wp_region_lit ?_
 refine qv 0 (.bool false) hF rfl (rn_assign rfl) fun _ F3 => ?_; clear hF
 refine wpList_nil ?_
 refine hK1 _ _ ?_
 clear hK1
 refine wp_seq_k (fun K4 hK4 => ?_)
 refine wp_seq_k (fun K5 hK5 => ?_)
 refine wp_region_lit ?_
 refine qv 0 (.slice A R.length c) F3 rfl (rn_move (F3.get rfl)) fun _ F7 => ?_; clear F3
 refine qv 1 (.int .i64 (R.length : Nat)) F7 rfl (rn_len_slice Try.underlying22 (F7.get rfl)) fun _ F9 => ?_; clear F7
 refine qv 2 (.slice B T.length e) F9 rfl (rn_move (F9.get rfl)) fun _ F11 => ?_; clear F9
 refine qv 3 (.int .i64 (T.length : Nat)) F11 rfl (rn_len_slice Try.underlying22 (F11.get rfl)) fun _ F13 => ?_; clear F11
 refine qv 4 (.bool (decide (((R.length : Nat) : Int) ≠ ((T.length : Nat) : Int)))) F13 rfl (rn_neq (F13.get rfl) (F13.get rfl)) fun _ F15 => ?_; clear F13
 refine wpList_nil ?_
 refine hK5 _ _ ?_
 clear hK5
 have F16 := ((((F15.nil.c F15 10 rfl).c F15 4 rfl).c F15 1 rfl).c F15 0 rfl)
 clear F15
 by_cases hc17 : ((R.length : Nat) : Int) ≠ ((T.length : Nat) : Int)
 ·skip
  refine wp_cond_true (c_true F16 rfl (decide_eq_true hc17)) ?_
  refine wp_seq_k (fun K18 hK18 => ?_)
  refine wp_region_lit ?_
  refine qv 0 (.bool false) F16 rfl (rn_assign rfl) fun _ F20 => ?_; clear F16
  refine wpList_nil ?_
  refine hK18 _ _ ?_
  clear hK18
  refine wp_ret ?_
  refine ret_then ?_
  refine ret1 F20 rfl rfl ?_
  exact ⟨congrArg (fun b => Ending.returned (.bool b)) (ne_lenR (by omega)).symm, (Ext.refl w)⟩
 ·skip
  refine wp_cond_false (c_false F16 rfl (decide_eq_false hc17)) ?_
  refine wp_skip ?_
  refine hK4 _ _ ?_
  clear hK4
  refine wp_seq_k (fun K21 hK21 => ?_)
  refine wp_seq_k (fun K22 hK22 => ?_)
  refine wp_region_lit ?_
  refine qv 0 (.int .i64 0) F16 rfl (rn_assign rfl) fun _ F24 => ?_; clear F16
  refine wpList_nil ?_
  refine hK22 _ _ ?_
  clear hK22
  refine wp_block ?_
  refine wp_loop (fun a' W => ∃ (k : Nat), Sl 28 [(0, (.slice A R.length c)), (1, (.slice B T.length e)), (4, (.bool false)), (10, (.bool (decide (((R.length : Nat) : Int) ≠ ((T.length : Nat) : Int))))), (5, (.int .i64 (k : Nat)))] a' ∧ k ≤ R.length ∧ R.take k = T.take k ∧ Ext w W ∧ w.heap.size ≤ W.heap.size) (fun a' _ => R.length - (intOf (a'.eval (.tmp 5))).toNat) ⟨0, (((((F24.nil.cons (q_get F24 (t := 5) rfl (by first | rfl | (congr 1; omega) | (congr 1; done)))).cons (q_get F24 (t := 10) rfl rfl)).cons (q_get F24 (t := 4) rfl rfl)).cons (q_get F24 (t := 1) rfl rfl)).cons (q_get F24 (t := 0) rfl rfl)), (by omega), rfl, (Ext.refl w), (Nat.le_refl _)⟩ ?_
  clear F24
  rintro a25 w26 ⟨k, F27, hp29, hp30, hx28, hf31⟩
  have hL32 := F27
  have z33 := hx28.size
  refine wp_seq_k (fun K34 hK34 => ?_)
  refine wp_seq_k (fun K35 hK35 => ?_)
  refine wp_region_lit ?_
  refine qv 0 (.int .i64 (k : Nat)) F27 rfl (rn_move (F27.get rfl)) fun _ F37 => ?_; clear F27
  refine qv 1 (.slice A R.length c) F37 rfl (rn_move (F37.get rfl)) fun _ F39 => ?_; clear F37
  refine qv 2 (.int .i64 (R.length : Nat)) F39 rfl (rn_len_slice Try.underlying22 (F39.get rfl)) fun _ F41 => ?_; clear F39
  refine qv 3 (.bool (decide (((k : Nat) : Int) < ((R.length : Nat) : Int)))) F41 rfl (rn_lss (F41.get rfl) (F41.get rfl)) fun _ F43 => ?_; clear F41
  refine wpList_nil ?_
  refine hK35 _ _ ?_
  clear hK35
  by_cases hc44 : ((k : Nat) : Int) < ((R.length : Nat) : Int)
  ·skip
   refine wp_cond_true (c_true F43 rfl (decide_eq_true hc44)) ?_
   refine wp_skip ?_
   refine hK34 _ _ ?_
   clear hK34
   refine wp_seq_k (fun K45 hK45 => ?_)
   refine wp_block ?_
   refine wp_seq_k (fun K46 hK46 => ?_)
   have hx48 : ∃ W, w26.drew = W ∧ Ext w26 W := ⟨_, rfl, (Ext.refl _).drew⟩
   obtain ⟨w47, e49, hx48⟩ := hx48
   have z50 := hx48.size
   refine any_start (fun W => Ext w47 W) (fun i => false) 11 #[false, false, false, false, false, false, false, false, false, false, false] rfl rfl rfl ?_
   rw [e49]; clear e49
   refine qp 0 (.slice A R.length c) F43 rfl rfl (fun W => (rn_move (F43.get rfl))) fun _ F52 => ?_; clear F43
   refine qp 1 (.int .i64 (k : Nat)) F52 rfl rfl (fun W => (rn_move (F52.get rfl))) fun _ F54 => ?_; clear F52
   have d68 := ((hnc.ext hx28).ext hx48)
   obtain ⟨x55, hi56, hm57⟩ := nth_of_lt R k (by omega)
   obtain ⟨b58, o59, A60, c61, hA62, hl63, hc64, hr65, le66, le67⟩ := RBss.get d68 hi56
   have z69 := hb x55 (List.mem_of_getElem? hi56)
   refine qp 2 (.pointer (some ⟨b58, o59 + k, none⟩)) F54 rfl rfl (fun W => (rn_index1 Try.underlying22 inf35 ((F54.get rfl).trans (by rw [hA62])) (F54.get rfl) (by omega : (0 : Int) ≤ (k : Nat)) (by omega : ((k : Nat) : Int) < ((R.length : Nat) : Int)))) fun _ F71 => ?_; clear F54
   have hS72 : Ext w47 w47 := (Ext.refl w47)
   refine qs 3 (.slice A60 x55.length c61) F71 rfl rfl hS72 (fun W hW => (rn_load (isAgg_no Try.underlying35 rfl) (F71.get rfl) (Ext.keep ((Ext.refl w47).trans hW) hc64))) fun _ F74 => ?_; clear F71
   refine qs 4 (strOf x55) F74 rfl rfl hS72 (fun W hW => (rn_str (F74.get rfl) (Fl.rbs ((RBs.fl hr65).ext hW)) Try.underlying35 Try.underlying5 Try.underlying9)) fun _ F76 => ?_; clear F74
   refine qp 5 (.slice B T.length e) F76 rfl rfl (fun W => (rn_move (F76.get rfl))) fun _ F78 => ?_; clear F76
   refine qp 6 (.int .i64 (k : Nat)) F78 rfl rfl (fun W => (rn_move (F78.get rfl))) fun _ F80 => ?_; clear F78
   have d94 := ((hmc.ext hx28).ext hx48)
   obtain ⟨x81, hi82, hm83⟩ := nth_of_lt T k (by omega)
   obtain ⟨b84, o85, A86, c87, hA88, hl89, hc90, hr91, le92, le93⟩ := RBss.get d94 hi82
   refine qp 7 (.pointer (some ⟨b84, o85 + k, none⟩)) F80 rfl rfl (fun W => (rn_index1 Try.underlying22 inf35 ((F80.get rfl).trans (by rw [hA88])) (F80.get rfl) (by omega : (0 : Int) ≤ (k : Nat)) (by omega : ((k : Nat) : Int) < ((T.length : Nat) : Int)))) fun _ F96 => ?_; clear F80
   refine qs 8 (.slice A86 x81.length c87) F96 rfl rfl hS72 (fun W hW => (rn_load (isAgg_no Try.underlying35 rfl) (F96.get rfl) (Ext.keep ((Ext.refl w47).trans hW) hc90))) fun _ F98 => ?_; clear F96
   refine qs 9 (strOf x81) F98 rfl rfl hS72 (fun W hW => (rn_str (F98.get rfl) (Fl.rbs ((RBs.fl hr91).ext hW)) Try.underlying35 Try.underlying5 Try.underlying9)) fun _ F100 => ?_; clear F98
   refine qp 10 (.bool (!decide (x55 = x81))) F100 rfl rfl (fun W => (rn_nes (F100.get rfl) (F100.get rfl) rfl)) fun _ F102 => ?_; clear F100
   refine any_nil (by decide +kernel) ?_
   refine hK46 _ _ ?_
   clear hK46
   have F103 := (((((((F102.nil.c F102 27 rfl).c F102 14 rfl).c F102 5 rfl).c F102 10 rfl).c F102 4 rfl).c F102 1 rfl).c F102 0 rfl)
   clear F102
   by_cases hc104 : x55 = x81
   ·skip
    refine wp_cond_false (c_false F103 rfl (not_t (decide_eq_true hc104))) ?_
    refine wp_skip ?_
    refine hK45 _ _ ?_
    clear hK45
    refine wp_region_lit ?_
    refine qv 0 (.int .i64 (k : Nat)) F103 rfl (rn_move (F103.get rfl)) fun _ F106 => ?_; clear F103
    refine qv 1 (.int .i64 (k + 1 : Nat)) F106 rfl (rn_addN (a := k) (b := 1) (F106.get rfl) rfl (by omega)) fun _ F108 => ?_; clear F106
    refine qv 2 (.int .i64 (k + 1 : Nat)) F108 rfl (rn_assign (F108.get rfl)) fun _ F110 => ?_; clear F108
    refine wpList_nil ?_
    refine ⟨⟨(k + 1), (((((F110.nil.cons (q_get F110 (t := 5) rfl (by first | rfl | (congr 1; omega) | (congr 1; done)))).cons (q_get F110 (t := 10) rfl rfl)).cons (q_get F110 (t := 4) rfl rfl)).cons (q_get F110 (t := 1) rfl rfl)).cons (q_get F110 (t := 0) rfl rfl)), (by omega), (take_eqR hp30 hi56 hi82 (of_decide_eq_true (decide_eq_true hc104))), (((Ext.refl w).trans hx28).trans hx48), (by omega)⟩, ?_⟩
    rw [F110.get (t := 5) rfl, hL32.get (t := 5) rfl]; simp [intOf] <;> omega
   ·skip
    refine wp_cond_true (c_true F103 rfl (not_f (decide_eq_false hc104))) ?_
    refine wp_seq_k (fun K111 hK111 => ?_)
    refine wp_region_lit ?_
    refine qv 0 (.bool false) F103 rfl (rn_assign rfl) fun _ F113 => ?_; clear F103
    refine wpList_nil ?_
    refine hK111 _ _ ?_
    clear hK111
    refine wp_ret ?_
    refine ret_block ?_
    refine ret_then ?_
    refine ret_then ?_
    refine ret_block ?_
    refine ret_then ?_
    refine ret1 F113 rfl rfl ?_
    exact ⟨congrArg (fun b => Ending.returned (.bool b)) (ne_atR hi56 hi82 (of_decide_eq_false (decide_eq_false hc104))).symm, (((Ext.refl w).trans hx28).trans hx48)⟩
  ·skip
   refine wp_cond_false (c_false F43 rfl (decide_eq_false hc44)) ?_
   refine wp_exit ?_
   refine exit_then ?_
   refine exit_then ?_
   refine exit_here ?_
   refine hK21 _ _ ?_
   clear hK21
   refine wp_seq_k (fun K114 hK114 => ?_)
   refine wp_region_lit ?_
   refine qv 0 (.bool true) F43 rfl (rn_assign rfl) fun _ F116 => ?_; clear F43
   refine wpList_nil ?_
   refine hK114 _ _ ?_
   clear hK114
   refine wp_ret ?_
   refine ret1 F116 rfl rfl ?_
   exact ⟨congrArg (fun b => Ending.returned (.bool b)) (eq_allR hp30 (by omega) (by omega)).symm, ((Ext.refl w).trans hx28)⟩

theorem samer_at {S2 : Nat → Prop} {v u : Value} (R T : List (List UInt8)) (w : World) (hn : RBss S w v R) (hm : RBss S2 w u T) :
  Calls Try.prog 24 #[v, u] w (fun e w' => e = .returned (.bool (decide (R = T))) ∧ Ext w w') := by
 obtain ⟨A, c, rfl, _⟩ := hn.form
 obtain ⟨B, e, rfl, _⟩ := hm.form
 exact samer_any A c R B e T w hn (fun _ _ => trivial) hm

set_option maxRecDepth 100000 in
set_option maxHeartbeats 1000000 in
theorem eqfunc_any {S2 : Nat → Prop} (A : Option Addr) (c : Nat) (R : List (List UInt8)) (B : Option Addr) (e : Nat) (T : List (List UInt8)) (w : World) (hn : RBss S w (.slice A R.length c) R) (hb : ∀ x ∈ R, True) (hm : RBss S2 w (.slice B T.length e) T) :
  Calls Try.prog 42 #[.slice A R.length c, .slice B T.length e, .func (.func 43) #[] #[]] w (fun e w' => e = .returned (.bool (decide (R = T))) ∧ Ext w w') := by
 have hnc := RBss.clip hn
 obtain ⟨-, hcR1, hcR2⟩ := RBss.at hn
 have hmc := RBss.clip hm
 obtain ⟨-, hmc1, hmc2⟩ := RBss.at hm
 refine calls_enter (l := [(.slice A R.length c), (.slice B T.length e), (.func (.func 43) #[] #[])]) Try.func42 rfl rfl rfl (fun aA hF => ?_)
 refine wp_seq_k (fun K1 hK1 => ?_)
 refine wp_region_lit ?_
 refine qv 0 (.bool false) hF rfl (rn_assign rfl) fun _ F3 => ?_; clear hF
 refine wpList_nil ?_
 refine hK1 _ _ ?_
 clear hK1
 refine wp_seq_k (fun K4 hK4 => ?_)
 refine wp_seq_k (fun K5 hK5 => ?_)
 refine wp_region_lit ?_
 refine qv 0 (.slice A R.length c) F3 rfl (rn_move (F3.get rfl)) fun _ F7 => ?_; clear F3
 refine qv 1 (.int .i64 (R.length : Nat)) F7 rfl (rn_len_slice Try.underlying22 (F7.get rfl)) fun _ F9 => ?_; clear F7
 refine qv 2 (.slice B T.length e) F9 rfl (rn_move (F9.get rfl)) fun _ F11 => ?_; clear F9
 refine qv 3 (.int .i64 (T.length : Nat)) F11 rfl (rn_len_slice Try.underlying22 (F11.get rfl)) fun _ F13 => ?_; clear F11
 refine qv 4 (.bool (decide (((R.length : Nat) : Int) ≠ ((T.length : Nat) : Int)))) F13 rfl (rn_neq (F13.get rfl) (F13.get rfl)) fun _ F15 => ?_; clear F13
 refine wpList_nil ?_
 refine hK5 _ _ ?_
 clear hK5
 have F16 := (((((F15.nil.c F15 14 rfl).c F15 6 rfl).c F15 2 rfl).c F15 1 rfl).c F15 0 rfl)
 clear F15
 by_cases hc17 : ((R.length : Nat) : Int) ≠ ((T.length : Nat) : Int)
 ·skip
  refine wp_cond_true (c_true F16 rfl (decide_eq_true hc17)) ?_
  refine wp_seq_k (fun K18 hK18 => ?_)
  refine wp_region_lit ?_
  refine qv 0 (.bool false) F16 rfl (rn_assign rfl) fun _ F20 => ?_; clear F16
  refine wpList_nil ?_
  refine hK18 _ _ ?_
  clear hK18
  refine wp_ret ?_
  refine ret_then ?_
  refine ret1 F20 rfl rfl ?_
  exact ⟨congrArg (fun b => Ending.returned (.bool b)) (ne_lenR (by omega)).symm, (Ext.refl w)⟩
 ·skip
  refine wp_cond_false (c_false F16 rfl (decide_eq_false hc17)) ?_
  refine wp_skip ?_
  refine hK4 _ _ ?_
  clear hK4
  refine wp_seq_k (fun K21 hK21 => ?_)
  refine wp_seq_k (fun K22 hK22 => ?_)
  refine wp_region_lit ?_
  refine qv 0 (.slice A R.length c) F16 rfl (rn_move (F16.get rfl)) fun _ F24 => ?_; clear F16
  refine qv 1 (.int .i64 (R.length : Nat)) F24 rfl (rn_len_slice Try.underlying22 (F24.get rfl)) fun _ F26 => ?_; clear F24
  refine qv 2 (.int .i64 0) F26 rfl (rn_move rfl) fun _ F28 => ?_; clear F26
  refine wpList_nil ?_
  refine hK22 _ _ ?_
  clear hK22
  refine wp_block ?_
  refine wp_loop (fun a' W => ∃ (k : Nat), Sl 32 [(0, (.slice A R.length c)), (1, (.slice B T.length e)), (2, (.func (.func 43) #[] #[])), (6, (.bool false)), (14, (.bool (decide (((R.length : Nat) : Int) ≠ ((T.length : Nat) : Int))))), (15, (.slice A R.length c)), (16, (.int .i64 (R.length : Nat))), (17, (.int .i64 (k : Nat)))] a' ∧ k ≤ R.length ∧ R.take k = T.take k ∧ Ext w W ∧ w.heap.size ≤ W.heap.size) (fun a' _ => R.length - (intOf (a'.eval (.tmp 17))).toNat) ⟨0, ((((((((F28.nil.cons (q_get F28 (t := 17) rfl (by first | rfl | (congr 1; omega) | (congr 1; done)))).cons (q_get F28 (t := 16) rfl rfl)).cons (q_get F28 (t := 15) rfl rfl)).cons (q_get F28 (t := 14) rfl rfl)).cons (q_get F28 (t := 6) rfl rfl)).cons (q_get F28 (t := 2) rfl rfl)).cons (q_get F28 (t := 1) rfl rfl)).cons (q_get F28 (t := 0) rfl rfl)), (by omega), rfl, (Ext.refl w), (Nat.le_refl _)⟩ ?_
  clear F28
  rintro a29 w30 ⟨k, F31, hp33, hp34, hx32, hf35⟩
  have hL36 := F31
  have z37 := hx32.size
  refine wp_seq_k (fun K38 hK38 => ?_)
  refine wp_region_lit ?_
  refine qv 0 (.bool (decide (((k : Nat) : Int) < ((R.length : Nat) : Int)))) F31 rfl (rn_lss (F31.get rfl) (F31.get rfl)) fun _ F40 => ?_; clear F31
  refine wpList_nil ?_
  refine hK38 _ _ ?_
  clear hK38
  refine wp_seq_k (fun K41 hK41 => ?_)
  by_cases hc42 : ((k : Nat) : Int) < ((R.length : Nat) : Int)
  ·skip
   refine wp_cond_true (c_true F40 rfl (decide_eq_true hc42)) ?_
   refine wp_skip ?_
   refine hK41 _ _ ?_
   clear hK41
   refine wp_seq_k (fun K43 hK43 => ?_)
   refine wp_block ?_
   refine wp_seq_k (fun K44 hK44 => ?_)
   refine wp_region_lit ?_
   refine qv 0 (.int .i64 (k : Nat)) F40 rfl (rn_move (F40.get rfl)) fun _ F46 => ?_; clear F40
   have d60 := (hnc.ext hx32)
   obtain ⟨x47, hi48, hm49⟩ := nth_of_lt R k (by omega)
   obtain ⟨b50, o51, A52, c53, hA54, hl55, hc56, hr57, le58, le59⟩ := RBss.get d60 hi48
   have z61 := hb x47 (List.mem_of_getElem? hi48)
   refine qv 1 (.pointer (some ⟨b50, o51 + k, none⟩)) F46 rfl (rn_index1 Try.underlying22 inf35 ((F46.get rfl).trans (by rw [hA54])) (F46.get rfl) (by omega : (0 : Int) ≤ (k : Nat)) (by omega : ((k : Nat) : Int) < ((R.length : Nat) : Int))) fun _ F63 => ?_; clear F46
   refine qv 2 (.slice A52 x47.length c53) F63 rfl (rn_load (isAgg_no Try.underlying35 rfl) (F63.get rfl) (Ext.keep (Ext.refl w30) hc56)) fun _ F65 => ?_; clear F63
   refine qv 3 (.int .i64 (k : Nat)) F65 rfl (rn_assign (F65.get rfl)) fun _ F67 => ?_; clear F65
   refine qv 4 (.slice A52 x47.length c53) F67 rfl (rn_assign (F67.get rfl)) fun _ F69 => ?_; clear F67
   refine wpList_nil ?_
   refine hK44 _ _ ?_
   clear hK44
   refine wp_seq_k (fun K70 hK70 => ?_)
   refine wp_region_lit ?_
   refine qv 0 (.slice B T.length e) F69 rfl (rn_move (F69.get rfl)) fun _ F72 => ?_; clear F69
   refine qv 1 (.int .i64 (k : Nat)) F72 rfl (rn_move (F72.get rfl)) fun _ F74 => ?_; clear F72
   have d88 := (hmc.ext hx32)
   obtain ⟨x75, hi76, hm77⟩ := nth_of_lt T k (by omega)
   obtain ⟨b78, o79, A80, c81, hA82, hl83, hc84, hr85, le86, le87⟩ := RBss.get d88 hi76
   refine qv 2 (.pointer (some ⟨b78, o79 + k, none⟩)) F74 rfl (rn_index1 Try.underlying22 inf35 ((F74.get rfl).trans (by rw [hA82])) (F74.get rfl) (by omega : (0 : Int) ≤ (k : Nat)) (by omega : ((k : Nat) : Int) < ((T.length : Nat) : Int))) fun _ F90 => ?_; clear F74
   refine qv 3 (.slice A80 x75.length c81) F90 rfl (rn_load (isAgg_no Try.underlying35 rfl) (F90.get rfl) (Ext.keep (Ext.refl w30) hc84)) fun _ F92 => ?_; clear F90
   refine qv 4 (.slice A80 x75.length c81) F92 rfl (rn_assign (F92.get rfl)) fun _ F94 => ?_; clear F92
   refine wpList_nil ?_
   refine hK70 _ _ ?_
   clear hK70
   have F95 := ((((((((((((F94.nil.c F94 9 rfl).c F94 8 rfl).c F94 7 rfl).c F94 18 rfl).c F94 17 rfl).c F94 16 rfl).c F94 15 rfl).c F94 14 rfl).c F94 6 rfl).c F94 2 rfl).c F94 1 rfl).c F94 0 rfl)
   clear F94
   refine wp_seq_k (fun K96 hK96 => ?_)
   refine wp_region_lit ?_
   refine qv 0 (.func (.func 43) #[] #[]) F95 rfl (rn_move (F95.get rfl)) fun _ F98 => ?_; clear F95
   refine qv 1 (.slice A52 x47.length c53) F98 rfl (rn_move (F98.get rfl)) fun _ F100 => ?_; clear F98
   refine qv 2 (.slice A80 x75.length c81) F100 rfl (rn_move (F100.get rfl)) fun _ F102 => ?_; clear F100
   refine wpl_op (i := 3) rfl (o_call F102 rfl rfl rfl rfl (rn_callv (F102.get rfl) (args0_2 (F102.get rfl) (F102.get rfl)) (by kernel_rfl)) (beq_at (v := (.slice A52 x47.length c53)) (u := (.slice A80 x75.length c81)) (n := x47.length) (m := x75.length) x47 x75 _ (RBs.fl hr57) (RBs.fl hr85)) ?_)
   rintro _ w103 ⟨rfl, hx104⟩
   refine ⟨_, rfl, ?_⟩; intro a105 F106; clear F102; have z107 := hx104.size
   refine qv 4 (.bool (!(decide (x47 = x75)))) F106 rfl (rn_not' (F106.get rfl) rfl) fun _ F109 => ?_; clear F106
   refine wpList_nil ?_
   refine hK96 _ _ ?_
   clear hK96
   have F110 := (((((((((((((F109.nil.c F109 30 rfl).c F109 9 rfl).c F109 8 rfl).c F109 7 rfl).c F109 18 rfl).c F109 17 rfl).c F109 16 rfl).c F109 15 rfl).c F109 14 rfl).c F109 6 rfl).c F109 2 rfl).c F109 1 rfl).c F109 0 rfl)
   clear F109
   by_cases hc111 : x47 = x75
   ·skip
    refine wp_cond_false (c_false F110 rfl (not_t (decide_eq_true hc111))) ?_
    refine wp_skip ?_
    refine hK43 _ _ ?_
    clear hK43
    refine wp_region_lit ?_
    refine qv 0 (.int .i64 (k + 1 : Nat)) F110 rfl (rn_addN (a := k) (b := 1) (F110.get rfl) rfl (by omega)) fun _ F113 => ?_; clear F110
    refine qv 1 (.int .i64 (k + 1 : Nat)) F113 rfl (rn_move (F113.get rfl)) fun _ F115 => ?_; clear F113
    refine wpList_nil ?_
    refine ⟨⟨(k + 1), ((((((((F115.nil.cons (q_get F115 (t := 17) rfl (by first | rfl | (congr 1; omega) | (congr 1; done)))).cons (q_get F115 (t := 16) rfl rfl)).cons (q_get F115 (t := 15) rfl rfl)).cons (q_get F115 (t := 14) rfl rfl)).cons (q_get F115 (t := 6) rfl rfl)).cons (q_get F115 (t := 2) rfl rfl)).cons (q_get F115 (t := 1) rfl rfl)).cons (q_get F115 (t := 0) rfl rfl)), (by omega), (take_eqR hp34 hi48 hi76 (of_decide_eq_true (decide_eq_true hc111))), (((Ext.refl w).trans hx32).trans hx104), (by omega)⟩, ?_⟩
    rw [F115.get (t := 17) rfl, hL36.get (t := 17) rfl]; simp [intOf] <;> omega
   ·skip
    refine wp_cond_true (c_true F110 rfl (not_f (decide_eq_false hc111))) ?_
    refine wp_seq_k (fun K116 hK116 => ?_)
    refine wp_region_lit ?_
    refine qv 0 (.bool false) F110 rfl (rn_assign rfl) fun _ F118 => ?_; clear F110
    refine wpList_nil ?_
    refine hK116 _ _ ?_
    clear hK116
    refine wp_ret ?_
    refine ret_block ?_
    refine ret_then ?_
    refine ret_then ?_
    refine ret_block ?_
    refine ret_then ?_
    refine ret1 F118 rfl rfl ?_
    exact ⟨congrArg (fun b => Ending.returned (.bool b)) (ne_atR hi48 hi76 (of_decide_eq_false (decide_eq_false hc111))).symm, (((Ext.refl w).trans hx32).trans hx104)⟩
  ·skip
   refine wp_cond_false (c_false F40 rfl (decide_eq_false hc42)) ?_
   refine wp_exit ?_
   refine exit_then ?_
   refine exit_then ?_
   refine exit_here ?_
   refine hK21 _ _ ?_
   clear hK21
   refine wp_seq_k (fun K119 hK119 => ?_)
   refine wp_region_lit ?_
   refine qv 0 (.bool true) F40 rfl (rn_assign rfl) fun _ F121 => ?_; clear F40
   refine wpList_nil ?_
   refine hK119 _ _ ?_
   clear hK119
   refine wp_ret ?_
   refine ret1 F121 rfl rfl ?_
   exact ⟨congrArg (fun b => Ending.returned (.bool b)) (eq_allR hp34 (by omega) (by omega)).symm, ((Ext.refl w).trans hx32)⟩

theorem eqfunc_at {S2 : Nat → Prop} {v u : Value} (R T : List (List UInt8)) (w : World) (hn : RBss S w v R) (hm : RBss S2 w u T) :
  Calls Try.prog 42 #[v, u, .func (.func 43) #[] #[]] w (fun e w' => e = .returned (.bool (decide (R = T))) ∧ Ext w w') := by
 obtain ⟨A, c, rfl, _⟩ := hn.form
 obtain ⟨B, e, rfl, _⟩ := hm.form
 exact eqfunc_any A c R B e T w hn (fun _ _ => trivial) hm

set_option maxRecDepth 100000 in
set_option maxHeartbeats 1000000 in
theorem same9_any {S2 : Nat → Prop} (m : Int) (A : Option Addr) (c : Nat) (R : List (List UInt8)) (s : Int) (m2 : Int) (B : Option Addr) (e : Nat) (T : List (List UInt8)) (s2 : Int) (w : World) (hn : RBss S w (.slice A R.length c) R) (hb : ∀ x ∈ R, True) (hm : RBss S2 w (.slice B T.length e) T) :
  Calls Try.prog 14 #[.agg #[.int .i64 m, .slice A R.length c, .int .i64 s], .agg #[.int .i64 m2, .slice B T.length e, .int .i64 s2]] w (fun e w' => e = .returned (.bool ((Lg.mk m R s).same (Lg.mk m2 T s2))) ∧ Ext w w') := by
 have hnc := RBss.clip hn
 obtain ⟨-, hcR1, hcR2⟩ := RBss.at hn
 have hmc := RBss.clip hm
 obtain ⟨-, hmc1, hmc2⟩ := RBss.at hm
 refine calls_enter (l := [(.agg #[(.int .i64 m), (.slice A R.length c), (.int .i64 s)]), (.agg #[(.int .i64 m2), (.slice B T.length e), (.int .i64 s2)])]) Try.func14 rfl rfl rfl (fun aA hF => ?_)
 refine wp_seq_k (fun K1 hK1 => ?_)
 refine wp_region_lit ?_
 refine wpl_op (i := 0) rfl (o_new (fun g => (.pointer (some ⟨g, 0, none⟩))) [(.int .i64 m), (.slice A R.length c), (.int .i64 s)] 29 hF rfl rfl rfl rfl (rn_box (hF.get rfl) (by kernel_rfl)) ?_)
 intro g2 w3 a8 F9 z6 z7 b4 hx5; clear hF
 refine wpl_op (i := 1) rfl (o_new (fun g => (.pointer (some ⟨g, 0, none⟩))) [(.int .i64 m2), (.slice B T.length e), (.int .i64 s2)] 29 F9 rfl rfl rfl rfl (rn_box (F9.get rfl) (by kernel_rfl)) ?_)
 intro g10 w11 a16 F17 z14 z15 b12 hx13; clear F9
 refine qv 2 (.bool false) F17 rfl (rn_assign rfl) fun _ F19 => ?_; clear F17
 refine wpList_nil ?_
 refine hK1 _ _ ?_
 clear hK1
 refine wp_seq_k (fun K20 hK20 => ?_)
 refine wp_region_lit ?_
 refine qv 0 (.pointer (some ⟨g2, 0, none⟩)) F19 rfl (rn_field Try.underlying29 rfl (by kernel_rfl) (F19.get rfl) rfl) fun _ F22 => ?_; clear F19
 have b23 := (b4.ext hx13)
 refine qv 1 (.int .i64 m) F22 rfl (rn_load (isAgg_no Try.underlying3 rfl) (F22.get rfl) (b23.rule.1 0)) fun _ F25 => ?_; clear F22
 refine qv 2 (.pointer (some ⟨g10, 0, none⟩)) F25 rfl (rn_field Try.underlying29 rfl (by kernel_rfl) (F25.get rfl) rfl) fun _ F27 => ?_; clear F25
 refine qv 3 (.int .i64 m2) F27 rfl (rn_load (isAgg_no Try.underlying3 rfl) (F27.get rfl) (b12.rule.1 0)) fun _ F29 => ?_; clear F27
 refine qv 4 (.bool (decide ((m : Int) = (m2 : Int)))) F29 rfl (rn_eql (F29.get rfl) (F29.get rfl)) fun _ F31 => ?_; clear F29
 refine qv 5 (.bool (decide ((m : Int) = (m2 : Int)))) F31 rfl (rn_move (F31.get rfl)) fun _ F33 => ?_; clear F31
 by_cases hc34 : (m : Int) = (m2 : Int)
 ·skip
  refine qg 6 (.pointer (some ⟨g2, 2, none⟩)) F33 (decide_eq_true hc34) (rn_field Try.underlying29 rfl (by kernel_rfl) (F33.get rfl) rfl) fun _ F36 => ?_; clear F33
  refine qg 7 (.int .i64 s) F36 (decide_eq_true hc34) (rn_load (isAgg_no Try.underlying3 rfl) (F36.get rfl) (b23.rule.1 2)) fun _ F38 => ?_; clear F36
  refine qg 8 (.pointer (some ⟨g10, 2, none⟩)) F38 (decide_eq_true hc34) (rn_field Try.underlying29 rfl (by kernel_rfl) (F38.get rfl) rfl) fun _ F40 => ?_; clear F38
  refine qg 9 (.int .i64 s2) F40 (decide_eq_true hc34) (rn_load (isAgg_no Try.underlying3 rfl) (F40.get rfl) (b12.rule.1 2)) fun _ F42 => ?_; clear F40
  refine qg 10 (.bool (decide ((s : Int) = (s2 : Int)))) F42 (decide_eq_true hc34) (rn_eql (F42.get rfl) (F42.get rfl)) fun _ F44 => ?_; clear F42
  refine qv 11 (.bool (decide ((s : Int) = (s2 : Int)))) F44 rfl (rn_pickT (c_true F44 rfl (decide_eq_true hc34)) (F44.get rfl)) fun _ F46 => ?_; clear F44
  refine qv 12 (.bool (decide ((s : Int) = (s2 : Int)))) F46 rfl (rn_move (F46.get rfl)) fun _ F48 => ?_; clear F46
  by_cases hc49 : (s : Int) = (s2 : Int)
  ·skip
   refine qg 13 (.pointer (some ⟨g2, 1, none⟩)) F48 (decide_eq_true hc49) (rn_field Try.underlying29 rfl (by kernel_rfl) (F48.get rfl) rfl) fun _ F51 => ?_; clear F48
   refine qg 14 (.slice A R.length c) F51 (decide_eq_true hc49) (rn_load (isAgg_no Try.underlying22 rfl) (F51.get rfl) (b23.rule.1 1)) fun _ F53 => ?_; clear F51
   refine qg 15 (.pointer (some ⟨g10, 1, none⟩)) F53 (decide_eq_true hc49) (rn_field Try.underlying29 rfl (by kernel_rfl) (F53.get rfl) rfl) fun _ F55 => ?_; clear F53
   refine qg 16 (.slice B T.length e) F55 (decide_eq_true hc49) (rn_load (isAgg_no Try.underlying22 rfl) (F55.get rfl) (b12.rule.1 1)) fun _ F57 => ?_; clear F55
   have d58 := ((hnc.ext hx5).ext hx13)
   have d59 := ((hmc.ext hx5).ext hx13)
   refine wpl_op (i := 17) rfl (o_call F57 rfl (wanted_guard rfl rfl rfl F57 rfl (decide_eq_true hc49) rfl) rfl rfl (rn_call (args2 (F57.get rfl) (F57.get rfl)) rfl (by kernel_rfl)) (samer_at (v := (.slice A R.length c)) (u := (.slice B T.length e)) R T _ d58 d59) ?_)
   rintro _ w60 ⟨rfl, hx61⟩
   refine ⟨_, rfl, ?_⟩; intro a62 F63; clear F57; have z64 := hx61.size
   refine qv 18 (.bool (decide (R = T))) F63 rfl (rn_pickT (c_true F63 rfl (decide_eq_true hc49)) (F63.get rfl)) fun _ F66 => ?_; clear F63
   refine qv 19 (.bool (decide (R = T))) F66 rfl (rn_assign (F66.get rfl)) fun _ F68 => ?_; clear F66
   refine wpList_nil ?_
   refine hK20 _ _ ?_
   clear hK20
   have F69 := (((((F68.nil.c F68 4 rfl).c F68 3 rfl).c F68 2 rfl).c F68 1 rfl).c F68 0 rfl)
   clear F68
   refine wp_ret ?_
   refine ret1 F69 rfl rfl ?_
   exact ⟨congrArg (fun b => Ending.returned (.bool b)) (same_ok (by omega) (by omega)).symm, ((((Ext.refl w).trans hx5).trans hx13).trans hx61)⟩
  ·skip
   refine qu 13 F48 (decide_eq_false hc49) fun _ F71 => ?_; clear F48
   refine qu 14 F71 (decide_eq_false hc49) fun _ F73 => ?_; clear F71
   refine qu 15 F73 (decide_eq_false hc49) fun _ F75 => ?_; clear F73
   refine qu 16 F75 (decide_eq_false hc49) fun _ F77 => ?_; clear F75
   refine qu 17 F77 (decide_eq_false hc49) fun _ F79 => ?_; clear F77
   refine qv 18 (.bool false) F79 rfl (rn_pickF (c_false F79 rfl (decide_eq_false hc49)) rfl) fun _ F81 => ?_; clear F79
   refine qv 19 (.bool false) F81 rfl (rn_assign (F81.get rfl)) fun _ F83 => ?_; clear F81
   refine wpList_nil ?_
   refine hK20 _ _ ?_
   clear hK20
   have F84 := (((((F83.nil.c F83 4 rfl).c F83 3 rfl).c F83 2 rfl).c F83 1 rfl).c F83 0 rfl)
   clear F83
   refine wp_ret ?_
   refine ret1 F84 rfl rfl ?_
   exact ⟨congrArg (fun b => Ending.returned (.bool b)) (same_ne (by omega)).symm, (((Ext.refl w).trans hx5).trans hx13)⟩
 ·skip
  refine qu 6 F33 (decide_eq_false hc34) fun _ F86 => ?_; clear F33
  refine qu 7 F86 (decide_eq_false hc34) fun _ F88 => ?_; clear F86
  refine qu 8 F88 (decide_eq_false hc34) fun _ F90 => ?_; clear F88
  refine qu 9 F90 (decide_eq_false hc34) fun _ F92 => ?_; clear F90
  refine qu 10 F92 (decide_eq_false hc34) fun _ F94 => ?_; clear F92
  refine qv 11 (.bool false) F94 rfl (rn_pickF (c_false F94 rfl (decide_eq_false hc34)) rfl) fun _ F96 => ?_; clear F94
  refine qv 12 (.bool false) F96 rfl (rn_move (F96.get rfl)) fun _ F98 => ?_; clear F96
  refine qu 13 F98 rfl fun _ F100 => ?_; clear F98
  refine qu 14 F100 rfl fun _ F102 => ?_; clear F100
  refine qu 15 F102 rfl fun _ F104 => ?_; clear F102
  refine qu 16 F104 rfl fun _ F106 => ?_; clear F104
  refine qu 17 F106 rfl fun _ F108 => ?_; clear F106
  refine qv 18 (.bool false) F108 rfl (rn_pickF (c_false F108 rfl rfl) rfl) fun _ F110 => ?_; clear F108
  refine qv 19 (.bool false) F110 rfl (rn_assign (F110.get rfl)) fun _ F112 => ?_; clear F110
  refine wpList_nil ?_
  refine hK20 _ _ ?_
  clear hK20
  have F113 := (((((F112.nil.c F112 4 rfl).c F112 3 rfl).c F112 2 rfl).c F112 1 rfl).c F112 0 rfl)
  clear F112
  refine wp_ret ?_
  refine ret1 F113 rfl rfl ?_
  exact ⟨congrArg (fun b => Ending.returned (.bool b)) (same_ne (by omega)).symm, (((Ext.refl w).trans hx5).trans hx13)⟩

theorem same9_at {S2 : Nat → Prop} {v u : Value} (m : Int) (R : List (List UInt8)) (s : Int) (m2 : Int) (T : List (List UInt8)) (s2 : Int) (w : World) (hn : RBss S w v R) (hm : RBss S2 w u T) :
  Calls Try.prog 14 #[.agg #[.int .i64 m, v, .int .i64 s], .agg #[.int .i64 m2, u, .int .i64 s2]] w (fun e w' => e = .returned (.bool ((Lg.mk m R s).same (Lg.mk m2 T s2))) ∧ Ext w w') := by
 obtain ⟨A, c, rfl, _⟩ := hn.form
 obtain ⟨B, e, rfl, _⟩ := hm.form
 exact same9_any m A c R s m2 B e T s2 w hn (fun _ _ => trivial) hm

set_option maxRecDepth 100000 in
set_option maxHeartbeats 1000000 in
theorem few9_any (X : Option Addr) (n x : Nat) (Y : Option Addr) (p y : Nat) (lf : Int) (st : Bool) (A : Option Addr) (c : Nat) (R : List (List UInt8)) (w : World) (hn : RBss S w (.slice A R.length c) R) (hb : ∀ x ∈ R, x.length ≤ 140737488355328) :
  Calls Try.prog 11 #[.agg #[.slice X n x, .slice Y p y, .int .i64 lf, .bool st], .slice A R.length c] w (fun e w' => ∃ b : Bool, e = .returned (.bool b) ∧ (b = true → n ≤ 40 ∧ p ≤ 40) ∧ Ext w w') := by
 have hnc := RBss.clip hn
 obtain ⟨-, hcR1, hcR2⟩ := RBss.at hn
 refine calls_enter (l := [(.agg #[(.slice X n x), (.slice Y p y), (.int .i64 lf), (.bool st)]), (.slice A R.length c)]) Try.func11 rfl rfl rfl (fun aA hF => ?_)
 refine wp_seq_k (fun K1 hK1 => ?_)
 refine wp_region_lit ?_
 refine wpl_op (i := 0) rfl (o_new (fun g => (.pointer (some ⟨g, 0, none⟩))) [(.slice X n x), (.slice Y p y), (.int .i64 lf), (.bool st)] 25 hF rfl rfl rfl rfl (rn_box (hF.get rfl) (by kernel_rfl)) ?_)
 intro g2 w3 a8 F9 z6 z7 b4 hx5; clear hF
 refine qv 1 (.bool false) F9 rfl (rn_assign rfl) fun _ F11 => ?_; clear F9
 refine wpList_nil ?_
 refine hK1 _ _ ?_
 clear hK1
 refine wp_seq_k (fun K12 hK12 => ?_)
 refine wp_region_lit ?_
 refine qv 0 (.int .i64 0) F11 rfl (rn_assign rfl) fun _ F14 => ?_; clear F11
 refine wpList_nil ?_
 refine hK12 _ _ ?_
 clear hK12
 refine wp_seq_k (fun K15 hK15 => ?_)
 refine wp_seq_k (fun K16 hK16 => ?_)
 refine wp_region_lit ?_
 refine qv 0 (.slice A R.length c) F14 rfl (rn_move (F14.get rfl)) fun _ F18 => ?_; clear F14
 refine qv 1 (.int .i64 (R.length : Nat)) F18 rfl (rn_len_slice Try.underlying22 (F18.get rfl)) fun _ F20 => ?_; clear F18
 refine qv 2 (.int .i64 0) F20 rfl (rn_move rfl) fun _ F22 => ?_; clear F20
 refine wpList_nil ?_
 refine hK16 _ _ ?_
 clear hK16
 refine wp_block ?_
 refine wp_loop (fun a' W => ∃ (k : Nat) (u : Int), Sl 34 [(0, (.agg #[(.slice X n x), (.slice Y p y), (.int .i64 lf), (.bool st)])), (1, (.slice A R.length c)), (2, (.pointer (some ⟨g2, 0, none⟩))), (4, (.bool false)), (5, (.int .i64 u)), (8, (.slice A R.length c)), (9, (.int .i64 (R.length : Nat))), (10, (.int .i64 (k : Nat)))] a' ∧ k ≤ R.length ∧ Ext w W ∧ Blk W g2 25 [(.slice X n x), (.slice Y p y), (.int .i64 lf), (.bool st)] ∧ w3.heap.size ≤ W.heap.size) (fun a' _ => R.length - (intOf (a'.eval (.tmp 10))).toNat) ⟨0, 0, ((((((((F22.nil.cons (q_get F22 (t := 10) rfl (by first | rfl | (congr 1; omega) | (congr 1; done)))).cons (q_get F22 (t := 9) rfl rfl)).cons (q_get F22 (t := 8) rfl rfl)).cons (q_get F22 (t := 5) rfl (by first | rfl | (congr 1; omega) | (congr 1; done)))).cons (q_get F22 (t := 4) rfl rfl)).cons (q_get F22 (t := 2) rfl rfl)).cons (q_get F22 (t := 1) rfl rfl)).cons (q_get F22 (t := 0) rfl rfl)), (by omega), ((Ext.refl w).trans hx5), b4, (Nat.le_refl _)⟩ ?_
 clear F22
 rintro a23 w24 ⟨k, u, F25, hp27, hx26, b28, hf29⟩
 have hL30 := F25
 have z31 := hx26.size
 have z32 := b28.lt
 refine wp_seq_k (fun K33 hK33 => ?_)
 refine wp_region_lit ?_
 refine qv 0 (.bool (decide (((k : Nat) : Int) < ((R.length : Nat) : Int)))) F25 rfl (rn_lss (F25.get rfl) (F25.get rfl)) fun _ F35 => ?_; clear F25
 refine wpList_nil ?_
 refine hK33 _ _ ?_
 clear hK33
 refine wp_seq_k (fun K36 hK36 => ?_)
 by_cases hc37 : ((k : Nat) : Int) < ((R.length : Nat) : Int)
 ·skip
  refine wp_cond_true (c_true F35 rfl (decide_eq_true hc37)) ?_
  refine wp_skip ?_
  refine hK36 _ _ ?_
  clear hK36
  refine wp_seq_k (fun K38 hK38 => ?_)
  refine wp_block ?_
  refine wp_seq_k (fun K39 hK39 => ?_)
  refine wp_region_lit ?_
  have d53 := (hnc.ext hx26)
  obtain ⟨x40, hi41, hm42⟩ := nth_of_lt R k (by omega)
  obtain ⟨b43, o44, A45, c46, hA47, hl48, hc49, hr50, le51, le52⟩ := RBss.get d53 hi41
  have z54 := hb x40 (List.mem_of_getElem? hi41)
  refine qv 0 (.pointer (some ⟨b43, o44 + k, none⟩)) F35 rfl (rn_index1 Try.underlying22 inf35 ((F35.get rfl).trans (by rw [hA47])) (F35.get rfl) (by omega : (0 : Int) ≤ (k : Nat)) (by omega : ((k : Nat) : Int) < ((R.length : Nat) : Int))) fun _ F56 => ?_; clear F35
  refine qv 1 (.slice A45 x40.length c46) F56 rfl (rn_load (isAgg_no Try.underlying35 rfl) (F56.get rfl) (Ext.keep (Ext.refl w24) hc49)) fun _ F58 => ?_; clear F56
  refine qv 2 (.slice A45 x40.length c46) F58 rfl (rn_assign (F58.get rfl)) fun _ F60 => ?_; clear F58
  refine wpList_nil ?_
  refine hK39 _ _ ?_
  clear hK39
  refine wp_region_lit ?_
  refine qv 0 (.int .i64 u) F60 rfl (rn_move (F60.get rfl)) fun _ F62 => ?_; clear F60
  refine qv 1 (.slice A45 x40.length c46) F62 rfl (rn_move (F62.get rfl)) fun _ F64 => ?_; clear F62
  refine qv 2 (.int .i64 (x40.length : Nat)) F64 rfl (rn_len_slice Try.underlying35 (F64.get rfl)) fun _ F66 => ?_; clear F64
  refine qv 3 (.int .i64 (1 + x40.length : Nat)) F66 rfl (rn_addN (a := 1) (b := x40.length) rfl (F66.get rfl) (by omega)) fun _ F68 => ?_; clear F66
  refine qv 4 (.int .i64 (wrapI (u + (1 + x40.length : Nat)))) F68 rfl (addW_ok (k := .i64) (F68.get rfl) (F68.get rfl)) fun _ F70 => ?_; clear F68
  refine qv 5 (.int .i64 (wrapI (u + (1 + x40.length : Nat)))) F70 rfl (rn_assign (F70.get rfl)) fun _ F72 => ?_; clear F70
  refine wpList_nil ?_
  refine hK38 _ _ ?_
  clear hK38
  have F73 := ((((((((((F72.nil.c F72 7 rfl).c F72 11 rfl).c F72 10 rfl).c F72 9 rfl).c F72 8 rfl).c F72 5 rfl).c F72 4 rfl).c F72 2 rfl).c F72 1 rfl).c F72 0 rfl)
  clear F72
  refine wp_region_lit ?_
  refine qv 0 (.int .i64 (k + 1 : Nat)) F73 rfl (rn_addN (a := k) (b := 1) (F73.get rfl) rfl (by omega)) fun _ F75 => ?_; clear F73
  refine qv 1 (.int .i64 (k + 1 : Nat)) F75 rfl (rn_move (F75.get rfl)) fun _ F77 => ?_; clear F75
  refine wpList_nil ?_
  refine ⟨⟨(k + 1), (wrapI (u + (1 + x40.length : Nat))), ((((((((F77.nil.cons (q_get F77 (t := 10) rfl (by first | rfl | (congr 1; omega) | (congr 1; done)))).cons (q_get F77 (t := 9) rfl rfl)).cons (q_get F77 (t := 8) rfl rfl)).cons (q_get F77 (t := 5) rfl (by first | rfl | (congr 1; omega) | (congr 1; done)))).cons (q_get F77 (t := 4) rfl rfl)).cons (q_get F77 (t := 2) rfl rfl)).cons (q_get F77 (t := 1) rfl rfl)).cons (q_get F77 (t := 0) rfl rfl)), (by omega), ((Ext.refl w).trans hx26), b28, (by omega)⟩, ?_⟩
  rw [F77.get (t := 10) rfl, hL30.get (t := 10) rfl]; simp [intOf] <;> omega
 ·skip
  refine wp_cond_false (c_false F35 rfl (decide_eq_false hc37)) ?_
  refine wp_exit ?_
  refine exit_then ?_
  refine exit_then ?_
  refine exit_here ?_
  refine hK15 _ _ ?_
  clear hK15
  refine wp_seq_k (fun K78 hK78 => ?_)
  refine wp_region_lit ?_
  refine qv 0 (.pointer (some ⟨g2, 0, none⟩)) F35 rfl (rn_field Try.underlying25 rfl (by kernel_rfl) (F35.get rfl) rfl) fun _ F80 => ?_; clear F35
  refine qv 1 (.slice X n x) F80 rfl (rn_load (isAgg_no Try.underlying22 rfl) (F80.get rfl) (b28.rule.1 0)) fun _ F82 => ?_; clear F80
  refine qv 2 (.int .i64 (n : Nat)) F82 rfl (rn_len_slice Try.underlying22 (F82.get rfl)) fun _ F84 => ?_; clear F82
  refine qv 3 (.bool (decide (((n : Nat) : Int) ≤ (40 : Int)))) F84 rfl (rn_leq (F84.get rfl) rfl) fun _ F86 => ?_; clear F84
  refine qv 4 (.bool (decide (((n : Nat) : Int) ≤ (40 : Int)))) F86 rfl (rn_move (F86.get rfl)) fun _ F88 => ?_; clear F86
  by_cases hc89 : ((n : Nat) : Int) ≤ (40 : Int)
  ·skip
   refine qg 5 (.pointer (some ⟨g2, 1, none⟩)) F88 (decide_eq_true hc89) (rn_field Try.underlying25 rfl (by kernel_rfl) (F88.get rfl) rfl) fun _ F91 => ?_; clear F88
   refine qg 6 (.slice Y p y) F91 (decide_eq_true hc89) (rn_load (isAgg_no Try.underlying23 rfl) (F91.get rfl) (b28.rule.1 1)) fun _ F93 => ?_; clear F91
   refine qg 7 (.int .i64 (p : Nat)) F93 (decide_eq_true hc89) (rn_len_slice Try.underlying23 (F93.get rfl)) fun _ F95 => ?_; clear F93
   refine qg 8 (.bool (decide (((p : Nat) : Int) ≤ (40 : Int)))) F95 (decide_eq_true hc89) (rn_leq (F95.get rfl) rfl) fun _ F97 => ?_; clear F95
   refine qv 9 (.bool (decide (((p : Nat) : Int) ≤ (40 : Int)))) F97 rfl (rn_pickT (c_true F97 rfl (decide_eq_true hc89)) (F97.get rfl)) fun _ F99 => ?_; clear F97
   refine qv 10 (.bool (decide (((p : Nat) : Int) ≤ (40 : Int)))) F99 rfl (rn_move (F99.get rfl)) fun _ F101 => ?_; clear F99
   by_cases hc102 : ((p : Nat) : Int) ≤ (40 : Int)
   ·skip
    refine qg 11 (.int .i64 u) F101 (decide_eq_true hc102) (rn_move (F101.get rfl)) fun _ F104 => ?_; clear F101
    refine qg 12 (.bool (decide ((u : Int) ≤ (4000 : Int)))) F104 (decide_eq_true hc102) (rn_leq (F104.get rfl) rfl) fun _ F106 => ?_; clear F104
    refine qv 13 (.bool (decide ((u : Int) ≤ (4000 : Int)))) F106 rfl (rn_pickT (c_true F106 rfl (decide_eq_true hc102)) (F106.get rfl)) fun _ F108 => ?_; clear F106
    refine qv 14 (.bool (decide ((u : Int) ≤ (4000 : Int)))) F108 rfl (rn_assign (F108.get rfl)) fun _ F110 => ?_; clear F108
    refine wpList_nil ?_
    refine hK78 _ _ ?_
    clear hK78
    have F111 := (((((((((F110.nil.c F110 11 rfl).c F110 10 rfl).c F110 9 rfl).c F110 8 rfl).c F110 5 rfl).c F110 4 rfl).c F110 2 rfl).c F110 1 rfl).c F110 0 rfl)
    clear F110
    refine wp_ret ?_
    refine ret1 F111 rfl rfl ?_
    exact ⟨_, rfl, fun h => ⟨by omega, by omega⟩, ((Ext.refl w).trans hx26)⟩
   ·skip
    refine qu 11 F101 (decide_eq_false hc102) fun _ F113 => ?_; clear F101
    refine qu 12 F113 (decide_eq_false hc102) fun _ F115 => ?_; clear F113
    refine qv 13 (.bool false) F115 rfl (rn_pickF (c_false F115 rfl (decide_eq_false hc102)) rfl) fun _ F117 => ?_; clear F115
    refine qv 14 (.bool false) F117 rfl (rn_assign (F117.get rfl)) fun _ F119 => ?_; clear F117
    refine wpList_nil ?_
    refine hK78 _ _ ?_
    clear hK78
    have F120 := (((((((((F119.nil.c F119 11 rfl).c F119 10 rfl).c F119 9 rfl).c F119 8 rfl).c F119 5 rfl).c F119 4 rfl).c F119 2 rfl).c F119 1 rfl).c F119 0 rfl)
    clear F119
    refine wp_ret ?_
    refine ret1 F120 rfl rfl ?_
    exact ⟨_, rfl, fun h => absurd h (by decide), ((Ext.refl w).trans hx26)⟩
  ·skip
   refine qu 5 F88 (decide_eq_false hc89) fun _ F122 => ?_; clear F88
   refine qu 6 F122 (decide_eq_false hc89) fun _ F124 => ?_; clear F122
   refine qu 7 F124 (decide_eq_false hc89) fun _ F126 => ?_; clear F124
   refine qu 8 F126 (decide_eq_false hc89) fun _ F128 => ?_; clear F126
   refine qv 9 (.bool false) F128 rfl (rn_pickF (c_false F128 rfl (decide_eq_false hc89)) rfl) fun _ F130 => ?_; clear F128
   refine qv 10 (.bool false) F130 rfl (rn_move (F130.get rfl)) fun _ F132 => ?_; clear F130
   refine qu 11 F132 rfl fun _ F134 => ?_; clear F132
   refine qu 12 F134 rfl fun _ F136 => ?_; clear F134
   refine qv 13 (.bool false) F136 rfl (rn_pickF (c_false F136 rfl rfl) rfl) fun _ F138 => ?_; clear F136
   refine qv 14 (.bool false) F138 rfl (rn_assign (F138.get rfl)) fun _ F140 => ?_; clear F138
   refine wpList_nil ?_
   refine hK78 _ _ ?_
   clear hK78
   have F141 := (((((((((F140.nil.c F140 11 rfl).c F140 10 rfl).c F140 9 rfl).c F140 8 rfl).c F140 5 rfl).c F140 4 rfl).c F140 2 rfl).c F140 1 rfl).c F140 0 rfl)
   clear F140
   refine wp_ret ?_
   refine ret1 F141 rfl rfl ?_
   exact ⟨_, rfl, fun h => absurd h (by decide), ((Ext.refl w).trans hx26)⟩

theorem few9_at {v : Value} (X : Option Addr) (n x : Nat) (Y : Option Addr) (p y : Nat) (lf : Int) (st : Bool) (R : List (List UInt8)) (w : World) (hn : RBss S w v R) (hb : ∀ x ∈ R, x.length ≤ 140737488355328) :
  Calls Try.prog 11 #[.agg #[.slice X n x, .slice Y p y, .int .i64 lf, .bool st], v] w (fun e w' => ∃ b : Bool, e = .returned (.bool b) ∧ (b = true → n ≤ 40 ∧ p ≤ 40) ∧ Ext w w') := by
 obtain ⟨A, c, rfl, _⟩ := hn.form
 exact few9_any X n x Y p y lf st A c R w hn hb

end Go.Proofs.Ytfmhnplkpohogaa
