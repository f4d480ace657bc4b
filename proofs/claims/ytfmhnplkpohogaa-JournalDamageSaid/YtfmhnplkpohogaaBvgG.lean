/- Several texts in one: JrU, JrR. -/
import Derived.Test.YtfmhnplkpohogaaProg
import Derived.Test.YtfmhnplkpohogaaBvgF
import Derived.Test.YtfmhnplkpohogaaBvgD
import Derived.KernelRfl
import Derived.Test.YtfmhnplkpohogaaBvgA
import Derived.Test.YtfmhnplkpohogaaBvgB
set_option linter.unusedVariables false
set_option linter.unusedSimpArgs false
namespace Go.Proofs.Ytfmhnplkpohogaa
open Go.RowKit

variable {S S' : Nat → Prop}

set_option maxRecDepth 100000 in
set_option maxHeartbeats 1000000 in
theorem samer_any {S2 : Nat → Prop} (A : Option Addr) (c : Nat) (R : List (List UInt8)) (B : Option Addr) (e : Nat) (T : List (List UInt8)) (w : World) (hn : RBss S w (.slice A R.length c) R) (hb : ∀ x ∈ R, True) (hm : RBss S2 w (.slice B T.length e) T) :
  Calls Try.prog 24 #[.slice A R.length c, .slice B T.length e] w (fun e w' => e = .returned (.bool (decide (R = T))) ∧ Ext w w') := by
 have hnc := RBss.clip hn
 obtain ⟨-, hcR1, hcR2⟩ := RBss.at hn
 have hmc := RBss.clip hm
 obtain ⟨-, hmc1, hmc2⟩ := RBss.at hm
 refine calls_enter (l := [(.slice A R.length c), (.slice B T.length e)]) Try.func24 rfl rfl rfl (fun aA hF => ?_)
 refine wp_seq_k (fun K1 hK1 => ?_)
 refine wp_region_lit ?_
 refine qv 0 (.bool false) hF rfl (rn_assign rfl) fun _ F3 => ?_; clear hF
 refine wpList_nil ?_
 refine hK1 _ _ ?_
 clear hK1
 refine wp_seq_k (fun K4 hK4 => ?_)
 refine wp_seq_k (fun K5 hK5 => ?_)
 refine wp_region_lit ?_
 refine qv 0 (.slice A R.length c) F3 rfl (rn_move (F3.get rfl)) fun _ F7 => ?_; clear F3
 refine qv 1 (.int .i64 (R.length : Nat)) F7 rfl (rn_len_slice Try.underlying22 (F7.get rfl)) fun _ F9 => ?_; clear F7
 refine qv 2 (.slice B T.length e) F9 rfl (rn_move (F9.get rfl)) fun _ F11 => ?_; clear F9
 refine qv 3 (.int .i64 (T.length : Nat)) F11 rfl (rn_len_slice Try.underlying22 (F11.get rfl)) fun _ F13 => ?_; clear F11
 refine qv 4 (.bool (decide (((R.length : Nat) : Int) ≠ ((T.length : Nat) : Int)))) F13 rfl (rn_neq (F13.get rfl) (F13.get rfl)) fun _ F15 => ?_; clear F13
 refine wpList_nil ?_
 refine hK5 _ _ ?_
 clear hK5
 have F16 := ((((F15.nil.c F15 10 rfl).c F15 4 rfl).c F15 1 rfl).c F15 0 rfl)
 clear F15
 by_cases hc17 : ((R.length : Nat) : Int) ≠ ((T.length : Nat) : Int)
 ·skip
  refine wp_cond_true (c_true F16 rfl (decide_eq_true hc17)) ?_
  refine wp_seq_k (fun K18 hK18 => ?_)
  refine wp_region_lit ?_
  refine qv 0 (.bool false) F16 rfl (rn_assign rfl) fun _ F20 => ?_; clear F16
  refine wpList_nil ?_
  refine hK18 _ _ ?_
  clear hK18
  refine wp_ret ?_
  refine ret_then ?_
  refine ret1 F20 rfl rfl ?_
  exact ⟨congrArg (fun b => Ending.returned (.bool b)) (ne_lenR (by omega)).symm, (Ext.refl w)⟩
 ·skip
  refine wp_cond_false (c_false F16 rfl (decide_eq_false hc17)) ?_
  refine wp_skip ?_
  refine hK4 _ _ ?_
  clear hK4
  refine wp_seq_k (fun K21 hK21 => ?_)
  refine wp_seq_k (fun K22 hK22 => ?_)
  refine wp_region_lit ?_
  refine qv 0 (.int .i64 0) F16 rfl (rn_assign rfl) fun _ F24 => ?_; clear F16
  refine wpList_nil ?_
  refine hK22 _ _ ?_
  clear hK22
  refine wp_block ?_
  refine wp_loop (fun a' W => ∃ (k : Nat), Sl 28 [(0, (.slice A R.length c)), (1, (.slice B T.length e)), (4, (.bool false)), (10, (.bool (decide (((R.length : Nat) : Int) ≠ ((T.length : Nat) : Int))))), (5, (.int .i64 (k : Nat)))] a' ∧ k ≤ R.length ∧ R.take k = T.take k ∧ Ext w W ∧ w.heap.size ≤ W.heap.size) (fun a' _ => R.length - (intOf (a'.eval (.tmp 5))).toNat) ⟨0, (((((F24.nil.cons (q_get F24 (t := 5) rfl (by first | rfl | (congr 1; omega) | (congr 1; done)))).cons (q_get F24 (t := 10) rfl rfl)).cons (q_get F24 (t := 4) rfl rfl)).cons (q_get F24 (t := 1) rfl rfl)).cons (q_get F24 (t := 0) rfl rfl)), (by omega), rfl, (Ext.refl w), (Nat.le_refl _)⟩ ?_
  clear F24
  rintro a25 w26 ⟨k, F27, hp29, hp30, hx28, hf31⟩
  have hL32 := F27
  have z33 := hx28.size
  refine wp_seq_k (fun K34 hK34 => ?_)
  refine wp_seq_k (fun K35 hK35 => ?_)
  refine wp_region_lit ?_
  refine qv 0 (.int .i64 (k : Nat)) F27 rfl (rn_move (F27.get rfl)) fun _ F37 => ?_; clear F27
  refine qv 1 (.slice A R.length c) F37 rfl (rn_move (F37.get rfl)) fun _ F39 => ?_; clear F37
  refine qv 2 (.int .i64 (R.length : Nat)) F39 rfl (rn_len_slice Try.underlying22 (F39.get rfl)) fun _ F41 => ?_; clear F39
  refine qv 3 (.bool (decide (((k : Nat) : Int) < ((R.length : Nat) : Int)))) F41 rfl (rn_lss (F41.get rfl) (F41.get rfl)) fun _ F43 => ?_; clear F41
  refine wpList_nil ?_
  refine hK35 _ _ ?_
  clear hK35
  by_cases hc44 : ((k : Nat) : Int) < ((R.length : Nat) : Int)
  ·skip
   refine wp_cond_true (c_true F43 rfl (decide_eq_true hc44)) ?_
   refine wp_skip ?_
   refine hK34 _ _ ?_
   clear hK34
   refine wp_seq_k (fun K45 hK45 => ?_)
   refine wp_block ?_
   refine wp_seq_k (fun K46 hK46 => ?_)
   have hx48 : ∃ W, w26.drew = W ∧ Ext w26 W := ⟨_, rfl, (Ext.refl _).drew⟩
   obtain ⟨w47, e49, hx48⟩ := hx48
   have z50 := hx48.size
   refine any_start (fun W => Ext w47 W) (fun i => false) 11 #[false, false, false, false, false, false, false, false, false, false, false] rfl rfl rfl ?_
   rw [e49]; clear e49
   refine qp 0 (.slice A R.length c) F43 rfl rfl (fun W => (rn_move (F43.get rfl))) fun _ F52 => ?_; clear F43
   refine qp 1 (.int .i64 (k : Nat)) F52 rfl rfl (fun W => (rn_move (F52.get rfl))) fun _ F54 => ?_; clear F52
   have d68 := ((hnc.ext hx28).ext hx48)
   obtain ⟨x55, hi56, hm57⟩ := nth_of_lt R k (by omega)
   obtain ⟨b58, o59, A60, c61, hA62, hl63, hc64, hr65, le66, le67⟩ := RBss.get d68 hi56
   have z69 := hb x55 (List.mem_of_getElem? hi56)
   refine qp 2 (.pointer (some ⟨b58, o59 + k, none⟩)) F54 rfl rfl (fun W => (rn_index1 Try.underlying22 inf35 ((F54.get rfl).trans (by rw [hA62])) (F54.get rfl) (by omega : (0 : Int) ≤ (k : Nat)) (by omega : ((k : Nat) : Int) < ((R.length : Nat) : Int)))) fun _ F71 => ?_; clear F54
   have hS72 : Ext w47 w47 := (Ext.refl w47)
   refine qs 3 (.slice A60 x55.length c61) F71 rfl rfl hS72 (fun W hW => (rn_load (isAgg_no Try.underlying35 rfl) (F71.get rfl) (Ext.keep ((Ext.refl w47).trans hW) hc64))) fun _ F74 => ?_; clear F71
   refine qs 4 (strOf x55) F74 rfl rfl hS72 (fun W hW => (rn_str (F74.get rfl) (Fl.rbs ((RBs.fl hr65).ext hW)) Try.underlying35 Try.underlying5 Try.underlying9)) fun _ F76 => ?_; clear F74
   refine qp 5 (.slice B T.length e) F76 rfl rfl (fun W => (rn_move (F76.get rfl))) fun _ F78 => ?_; clear F76
   refine qp 6 (.int .i64 (k : Nat)) F78 rfl rfl (fun W => (rn_move (F78.get rfl))) fun _ F80 => ?_; clear F78
   have d94 := ((hmc.ext hx28).ext hx48)
   obtain ⟨x81, hi82, hm83⟩ := nth_of_lt T k (by omega)
   obtain ⟨b84, o85, A86, c87, hA88, hl89, hc90, hr91, le92, le93⟩ := RBss.get d94 hi82
   refine qp 7 (.pointer (some ⟨b84, o85 + k, none⟩)) F80 rfl rfl (fun W => (rn_index1 Try.underlying22 inf35 ((F80.get rfl).trans (by rw [hA88])) (F80.get rfl) (by omega : (0 : Int) ≤ (k : Nat)) (by omega : ((k : Nat) : Int) < ((T.length : Nat) : Int)))) fun _ F96 => ?_; clear F80
   refine qs 8 (.slice A86 x81.length c87) F96 rfl rfl hS72 (fun W hW => (rn_load (isAgg_no Try.underlying35 rfl) (F96.get rfl) (Ext.keep ((Ext.refl w47).trans hW) hc90))) fun _ F98 => ?_; clear F96
   refine qs 9 (strOf x81) F98 rfl rfl hS72 (fun W hW => (rn_str (F98.get rfl) (Fl.rbs ((RBs.fl hr91).ext hW)) Try.underlying35 Try.underlying5 Try.underlying9)) fun _ F100 => ?_; clear F98
   refine qp 10 (.bool (!decide (x55 = x81))) F100 rfl rfl (fun W => (rn_nes (F100.get rfl) (F100.get rfl) rfl)) fun _ F102 => ?_; clear F100
   refine any_nil (by decide +kernel) ?_
   refine hK46 _ _ ?_
   clear hK46
   have F103 := (((((((F102.nil.c F102 27 rfl).c F102 14 rfl).c F102 5 rfl).c F102 10 rfl).c F102 4 rfl).c F102 1 rfl).c F102 0 rfl)
   clear F102
   by_cases hc104 : x55 = x81
   ·skip
    refine wp_cond_false (c_false F103 rfl (not_t (decide_eq_true hc104))) ?_
    refine wp_skip ?_
    refine hK45 _ _ ?_
    clear hK45
    refine wp_region_lit ?_
    refine qv 0 (.int .i64 (k : Nat)) F103 rfl (rn_move (F103.get rfl)) fun _ F106 => ?_; clear F103
    refine qv 1 (.int .i64 (k + 1 : Nat)) F106 rfl (rn_addN (a := k) (b := 1) (F106.get rfl) rfl (by omega)) fun _ F108 => ?_; clear F106
    refine qv 2 (.int .i64 (k + 1 : Nat)) F108 rfl (rn_assign (F108.get rfl)) fun _ F110 => ?_; clear F108
    refine wpList_nil ?_
    refine ⟨⟨(k + 1), (((((F110.nil.cons (q_get F110 (t := 5) rfl (by first | rfl | (congr 1; omega) | (congr 1; done)))).cons (q_get F110 (t := 10) rfl rfl)).cons (q_get F110 (t := 4) rfl rfl)).cons (q_get F110 (t := 1) rfl rfl)).cons (q_get F110 (t := 0) rfl rfl)), (by omega), (take_eqR hp30 hi56 hi82 (of_decide_eq_true (decide_eq_true hc104))), (((Ext.refl w).trans hx28).trans hx48), (by omega)⟩, ?_⟩
    rw [F110.get (t := 5) rfl, hL32.get (t := 5) rfl]; simp [intOf] <;> omega
   ·skip
    refine wp_cond_true (c_true F103 rfl (not_f (decide_eq_false hc104))) ?_
    refine wp_seq_k (fun K111 hK111 => ?_)
    refine wp_region_lit ?_
    refine qv 0 (.bool false) F103 rfl (rn_assign rfl) fun _ F113 => ?_; clear F103
    refine wpList_nil ?_
    refine hK111 _ _ ?_
    clear hK111
    refine wp_ret ?_
    refine ret_block ?_
    refine ret_then ?_
    refine ret_then ?_
    refine ret_block ?_
    refine ret_then ?_
    refine ret1 F113 rfl rfl ?_
    exact ⟨congrArg (fun b => Ending.returned (.bool b)) (ne_atR hi56 hi82 (of_decide_eq_false (decide_eq_false hc104))).symm, (((Ext.refl w).trans hx28).trans hx48)⟩
  ·skip
   refine wp_cond_false (c_false F43 rfl (decide_eq_false hc44)) ?_
   refine wp_exit ?_
   refine exit_then ?_
   refine exit_then ?_
   refine exit_here ?_
   refine hK21 _ _ ?_
   clear hK21
   refine wp_seq_k (fun K114 hK114 => ?_)
   refine wp_region_lit ?_
   refine qv 0 (.bool true) F43 rfl (rn_assign rfl) fun _ F116 => ?_; clear F43
   refine wpList_nil ?_
   refine hK114 _ _ ?_
   clear hK114
   refine wp_ret ?_
   refine ret1 F116 rfl rfl ?_
   exact ⟨congrArg (fun b => Ending.returned (.bool b)) (eq_allR hp30 (by omega) (by omega)).symm, ((Ext.refl w).trans hx28)⟩

theorem samer_at {S2 : Nat → Prop} {v u : Value} (R T : List (List UInt8)) (w : World) (hn : RBss S w v R) (hm : RBss S2 w u T) :
  Calls Try.prog 24 #[v, u] w (fun e w' => e = .returned (.bool (decide (R = T))) ∧ Ext w w') := by
 obtain ⟨A, c, rfl, _⟩ := hn.form
 obtain ⟨B, e, rfl, _⟩ := hm.form
 exact samer_any A c R B e T w hn (fun _ _ => trivial) hm

set_option maxRecDepth 100000 in
set_option maxHeartbeats 1000000 in
theorem eqfunc_any {S2 : Nat → Prop} (A : Option Addr) (c : Nat) (R : List (List UInt8)) (B : Option Addr) (e : Nat) (T : List (List UInt8)) (w : World) (hn : RBss S w (.slice A R.length c) R) (hb : ∀ x ∈ R, True) (hm : RBss S2 w (.slice B T.length e) T) :
  Calls Try.prog 42 #[.slice A R.length c, .slice B T.length e, .func (.func 43) #[] #[]] w (fun e w' => e = .returned (.bool (decide (R = T))) ∧ Ext w w') := by
 have hnc := RBss.clip hn
 obtain ⟨-, hcR1, hcR2⟩ := RBss.at hn
 have hmc := RBss.clip hm
 obtain ⟨-, hmc1, hmc2⟩ := RBss.at hm
 refine calls_enter (l := [(.slice A R.length c), (.slice B T.length e), (.func (.func 43) #[] #[])]) Try.func42 rfl rfl rfl (fun aA hF => ?_)
 refine wp_seq_k (fun K1 hK1 => ?_)
 refine wp_region_lit ?_
 refine qv 0 (.bool false) hF rfl (rn_assign rfl) fun _ F3 => ?_; clear hF
 refine wpList_nil ?_
 refine hK1 _ _ ?_
 clear hK1
 refine wp_seq_k (fun K4 hK4 => ?_)
 refine wp_seq_k (fun K5 hK5 => ?_)
 refine wp_region_lit ?_
 refine qv 0 (.slice A R.length c) F3 rfl (rn_move (F3.get rfl)) fun _ F7 => ?_; clear F3
 refine qv 1 (.int .i64 (R.length : Nat)) F7 rfl (rn_len_slice Try.underlying22 (F7.get rfl)) fun _ F9 => ?_; clear F7
 refine qv 2 (.slice B T.length e) F9 rfl (rn_move (F9.get rfl)) fun _ F11 => ?_; clear F9
 refine qv 3 (.int .i64 (T.length : Nat)) F11 rfl (rn_len_slice Try.underlying22 (F11.get rfl)) fun _ F13 => ?_; clear F11
 refine qv 4 (.bool (decide (((R.length : Nat) : Int) ≠ ((T.length : Nat) : Int)))) F13 rfl (rn_neq (F13.get rfl) (F13.get rfl)) fun _ F15 => ?_; clear F13
 refine wpList_nil ?_
 refine hK5 _ _ ?_
 clear hK5
 have F16 := (((((F15.nil.c F15 14 rfl).c F15 6 rfl).c F15 2 rfl).c F15 1 rfl).c F15 0 rfl)
 clear F15
 by_cases hc17 : ((R.length : Nat) : Int) ≠ ((T.length : Nat) : Int)
 ·skip
  refine wp_cond_true (c_true F16 rfl (decide_eq_true hc17)) ?_
  refine wp_seq_k (fun K18 hK18 => ?_)
  refine wp_region_lit ?_
  refine qv 0 (.bool false) F16 rfl (rn_assign rfl) fun _ F20 => ?_; clear F16
  refine wpList_nil ?_
  refine hK18 _ _ ?_
  clear hK18
  refine wp_ret ?_
  refine ret_then ?_
  refine ret1 F20 rfl rfl ?_
  exact ⟨congrArg (fun b => Ending.returned (.bool b)) (ne_lenR (by omega)).symm, (Ext.refl w)⟩
 ·skip
  refine wp_cond_false (c_false F16 rfl (decide_eq_false hc17)) ?_
  refine wp_skip ?_
  refine hK4 _ _ ?_
  clear hK4
  refine wp_seq_k (fun K21 hK21 => ?_)
  refine wp_seq_k (fun K22 hK22 => ?_)
  refine wp_region_lit ?_
  refine qv 0 (.slice A R.length c) F16 rfl (rn_move (F16.get rfl)) fun _ F24 => ?_; clear F16
  refine qv 1 (.int .i64 (R.length : Nat)) F24 rfl (rn_len_slice Try.underlying22 (F24.get rfl)) fun _ F26 => ?_; clear F24
  refine qv 2 (.int .i64 0) F26 rfl (rn_move rfl) fun _ F28 => ?_; clear F26
  refine wpList_nil ?_
  refine hK22 _ _ ?_
  clear hK22
  refine wp_block ?_
  refine wp_loop (fun a' W => ∃ (k : Nat), Sl 32 [(0, (.slice A R.length c)), (1, (.slice B T.length e)), (2, (.func (.func 43) #[] #[])), (6, (.bool false)), (14, (.bool (decide (((R.length : Nat) : Int) ≠ ((T.length : Nat) : Int))))), (15, (.slice A R.length c)), (16, (.int .i64 (R.length : Nat))), (17, (.int .i64 (k : Nat)))] a' ∧ k ≤ R.length ∧ R.take k = T.take k ∧ Ext w W ∧ w.heap.size ≤ W.heap.size) (fun a' _ => R.length - (intOf (a'.eval (.tmp 17))).toNat) ⟨0, ((((((((F28.nil.cons (q_get F28 (t := 17) rfl (by first | rfl | (congr 1; omega) | (congr 1; done)))).cons (q_get F28 (t := 16) rfl rfl)).cons (q_get F28 (t := 15) rfl rfl)).cons (q_get F28 (t := 14) rfl rfl)).cons (q_get F28 (t := 6) rfl rfl)).cons (q_get F28 (t := 2) rfl rfl)).cons (q_get F28 (t := 1) rfl rfl)).cons (q_get F28 (t := 0) rfl rfl)), (by omega), rfl, (Ext.refl w), (Nat.le_refl _)⟩ ?_
  clear F28
  rintro a29 w30 ⟨k, F31, hp33, hp34, hx32, hf35⟩
  have hL36 := F31
  have z37 := hx32.size
  refine wp_seq_k (fun K38 hK38 => ?_)
  refine wp_region_lit ?_
  refine qv 0 (.bool (decide (((k : Nat) : Int) < ((R.length : Nat) : Int)))) F31 rfl (rn_lss (F31.get rfl) (F31.get rfl)) fun _ F40 => ?_; clear F31
  refine wpList_nil ?_
  refine hK38 _ _ ?_
  clear hK38
  refine wp_seq_k (fun K41 hK41 => ?_)
  by_cases hc42 : ((k : Nat) : Int) < ((R.length : Nat) : Int)
  ·skip
   refine wp_cond_true (c_true F40 rfl (decide_eq_true hc42)) ?_
   refine wp_skip ?_
   refine hK41 _ _ ?_
   clear hK41
   refine wp_seq_k (fun K43 hK43 => ?_)
   refine wp_block ?_
   refine wp_seq_k (fun K44 hK44 => ?_)
   refine wp_region_lit ?_
   refine qv 0 (.int .i64 (k : Nat)) F40 rfl (rn_move (F40.get rfl)) fun _ F46 => ?_; clear F40
   have d60 := (hnc.ext hx32)
   obtain ⟨x47, hi48, hm49⟩ := nth_of_lt R k (by omega)
   obtain ⟨b50, o51, A52, c53, hA54, hl55, hc56, hr57, le58, le59⟩ := RBss.get d60 hi48
   have z61 := hb x47 (List.mem_of_getElem? hi48)
   refine qv 1 (.pointer (some ⟨b50, o51 + k, none⟩)) F46 rfl (rn_index1 Try.underlying22 inf35 ((F46.get rfl).trans (by rw [hA54])) (F46.get rfl) (by omega : (0 : Int) ≤ (k : Nat)) (by omega : ((k : Nat) : Int) < ((R.length : Nat) : Int))) fun _ F63 => ?_; clear F46
   refine qv 2 (.slice A52 x47.length c53) F63 rfl (rn_load (isAgg_no Try.underlying35 rfl) (F63.get rfl) (Ext.keep (Ext.refl w30) hc56)) fun _ F65 => ?_; clear F63
   refine qv 3 (.int .i64 (k : Nat)) F65 rfl (rn_assign (F65.get rfl)) fun _ F67 => ?_; clear F65
   refine qv 4 (.slice A52 x47.length c53) F67 rfl (rn_assign (F67.get rfl)) fun _ F69 => ?_; clear F67
   refine wpList_nil ?_
   refine hK44 _ _ ?_
   clear hK44
   refine wp_seq_k (fun K70 hK70 => ?_)
   refine wp_region_lit ?_
   refine qv 0 (.slice B T.length e) F69 rfl (rn_move (F69.get rfl)) fun _ F72 => ?_; clear F69
   refine qv 1 (.int .i64 (k : Nat)) F72 rfl (rn_move (F72.get rfl)) fun _ F74 => ?_; clear F72
   have d88 := (hmc.ext hx32)
   obtain ⟨x75, hi76, hm77⟩ := nth_of_lt T k (by omega)
   obtain ⟨b78, o79, A80, c81, hA82, hl83, hc84, hr85, le86, le87⟩ := RBss.get d88 hi76
   refine qv 2 (.pointer (some ⟨b78, o79 + k, none⟩)) F74 rfl (rn_index1 Try.underlying22 inf35 ((F74.get rfl).trans (by rw [hA82])) (F74.get rfl) (by omega : (0 : Int) ≤ (k : Nat)) (by omega : ((k : Nat) : Int) < ((T.length : Nat) : Int))) fun _ F90 => ?_; clear F74
   refine qv 3 (.slice A80 x75.length c81) F90 rfl (rn_load (isAgg_no Try.underlying35 rfl) (F90.get rfl) (Ext.keep (Ext.refl w30) hc84)) fun _ F92 => ?_; clear F90
   refine qv 4 (.slice A80 x75.length c81) F92 rfl (rn_assign (F92.get rfl)) fun _ F94 => ?_; clear F92
   refine wpList_nil ?_
   refine hK70 _ _ ?_
   clear hK70
   have F95 := ((((((((((((F94.nil.c F94 9 rfl).c F94 8 rfl).c F94 7 rfl).c F94 18 rfl).c F94 17 rfl).c F94 16 rfl).c F94 15 rfl).c F94 14 rfl).c F94 6 rfl).c F94 2 rfl).c F94 1 rfl).c F94 0 rfl)
   clear F94
   refine wp_seq_k (fun K96 hK96 => ?_)
   refine wp_region_lit ?_
   refine qv 0 (.func (.func 43) #[] #[]) F95 rfl (rn_move (F95.get rfl)) fun _ F98 => ?_; clear F95
   refine qv 1 (.slice A52 x47.length c53) F98 rfl (rn_move (F98.get rfl)) fun _ F100 => ?_; clear F98
   refine qv 2 (.slice A80 x75.length c81) F100 rfl (rn_move (F100.get rfl)) fun _ F102 => ?_; clear F100
   refine wpl_op (i := 3) rfl (o_call F102 rfl rfl rfl rfl (rn_callv (F102.get rfl) (args0_2 (F102.get rfl) (F102.get rfl)) (by kernel_rfl)) (beq_at (v := (.slice A52 x47.length c53)) (u := (.slice A80 x75.length c81)) (n := x47.length) (m := x75.length) x47 x75 _ (RBs.fl hr57) (RBs.fl hr85)) ?_)
   rintro _ w103 ⟨rfl, hx104⟩
   refine ⟨_, rfl, ?_⟩; intro a105 F106; clear F102; have z107 := hx104.size
   refine qv 4 (.bool (!(decide (x47 = x75)))) F106 rfl (rn_not' (F106.get rfl) rfl) fun _ F109 => ?_; clear F106
   refine wpList_nil ?_
   refine hK96 _ _ ?_
   clear hK96
   have F110 := (((((((((((((F109.nil.c F109 30 rfl).c F109 9 rfl).c F109 8 rfl).c F109 7 rfl).c F109 18 rfl).c F109 17 rfl).c F109 16 rfl).c F109 15 rfl).c F109 14 rfl).c F109 6 rfl).c F109 2 rfl).c F109 1 rfl).c F109 0 rfl)
   clear F109
   by_cases hc111 : x47 = x75
   ·skip
    refine wp_cond_false (c_false F110 rfl (not_t (decide_eq_true hc111))) ?_
    refine wp_skip ?_
    refine hK43 _ _ ?_
    clear hK43
    refine wp_region_lit ?_
    refine qv 0 (.int .i64 (k + 1 : Nat)) F110 rfl (rn_addN (a := k) (b := 1) (F110.get rfl) rfl (by omega)) fun _ F113 => ?_; clear F110
    refine qv 1 (.int .i64 (k + 1 : Nat)) F113 rfl (rn_move (F113.get rfl)) fun _ F115 => ?_; clear F113
    refine wpList_nil ?_
    refine ⟨⟨(k + 1), ((((((((F115.nil.cons (q_get F115 (t := 17) rfl (by first | rfl | (congr 1; omega) | (congr 1; done)))).cons (q_get F115 (t := 16) rfl rfl)).cons (q_get F115 (t := 15) rfl rfl)).cons (q_get F115 (t := 14) rfl rfl)).cons (q_get F115 (t := 6) rfl rfl)).cons (q_get F115 (t := 2) rfl rfl)).cons (q_get F115 (t := 1) rfl rfl)).cons (q_get F115 (t := 0) rfl rfl)), (by omega), (take_eqR hp34 hi48 hi76 (of_decide_eq_true (decide_eq_true hc111))), (((Ext.refl w).trans hx32).trans hx104), (by omega)⟩, ?_⟩
    rw [F115.get (t := 17) rfl, hL36.get (t := 17) rfl]; simp [intOf] <;> omega
   ·skip
    refine wp_cond_true (c_true F110 rfl (not_f (decide_eq_false hc111))) ?_
    refine wp_seq_k (fun K116 hK116 => ?_)
    refine wp_region_lit ?_
    refine qv 0 (.bool false) F110 rfl (rn_assign rfl) fun _ F118 => ?_; clear F110
    refine wpList_nil ?_
    refine hK116 _ _ ?_
    clear hK116
    refine wp_ret ?_
    refine ret_block ?_
    refine ret_then ?_
    refine ret_then ?_
    refine ret_block ?_
    refine ret_then ?_
    refine ret1 F118 rfl rfl ?_
    exact ⟨congrArg (fun b => Ending.returned (.bool b)) (ne_atR hi48 hi76 (of_decide_eq_false (decide_eq_false hc111))).symm, (((Ext.refl w).trans hx32).trans hx104)⟩
  ·skip
   refine wp_cond_false (c_false F40 rfl (decide_eq_false hc42)) ?_
   refine wp_exit ?_
   refine exit_then ?_
   refine exit_then ?_
   refine exit_here ?_
   refine hK21 _ _ ?_
   clear hK21
   refine wp_seq_k (fun K119 hK119 => ?_)
   refine wp_region_lit ?_
   refine qv 0 (.bool true) F40 rfl (rn_assign rfl) fun _ F121 => ?_; clear F40
   refine wpList_nil ?_
   refine hK119 _ _ ?_
   clear hK119
   refine wp_ret ?_
   refine ret1 F121 rfl rfl ?_
   exact ⟨congrArg (fun b => Ending.returned (.bool b)) (eq_allR hp34 (by omega) (by omega)).symm, ((Ext.refl w).trans hx32)⟩

theorem eqfunc_at {S2 : Nat → Prop} {v u : Value} (R T : List (List UInt8)) (w : World) (hn : RBss S w v R) (hm : RBss S2 w u T) :
  Calls Try.prog 42 #[v, u, .func (.func 43) #[] #[]] w (fun e w' => e = .returned (.bool (decide (R = T))) ∧ Ext w w') := by
 obtain ⟨A, c, rfl, _⟩ := hn.form
 obtain ⟨B, e, rfl, _⟩ := hm.form
 exact eqfunc_any A c R B e T w hn (fun _ _ => trivial) hm

set_option maxRecDepth 100000 in
set_option maxHeartbeats 1000000 in
theorem few9_any (X : Option Addr) (n x : Nat) (Y : Option Addr) (p y : Nat) (lf : Int) (st : Bool) (A : Option Addr) (c : Nat) (R : List (List UInt8)) (w : World) (hn : RBss S w (.slice A R.length c) R) (hb : ∀ x ∈ R, x.length ≤ 140737488355328) :
  Calls Try.prog 11 #[.agg #[.slice X n x, .slice Y p y, .int .i64 lf, .bool st], .slice A R.length c] w (fun e w' => ∃ b : Bool, e = .returned (.bool b) ∧ (b = true → n ≤ 40 ∧ p ≤ 40) ∧ Ext w w') := by
 have hnc := RBss.clip hn
 obtain ⟨-, hcR1, hcR2⟩ := RBss.at hn
 refine calls_enter (l := [(.agg #[(.slice X n x), (.slice Y p y), (.int .i64 lf), (.bool st)]), (.slice A R.length c)]) Try.func11 rfl rfl rfl (fun aA hF => ?_)
 refine wp_seq_k (fun K1 hK1 => ?_)
 refine wp_region_lit ?_
 refine wpl_op (i := 0) rfl (o_new (fun g => (.pointer (some ⟨g, 0, none⟩))) [(.slice X n x), (.slice Y p y), (.int .i64 lf), (.bool st)] 25 hF rfl rfl rfl rfl (rn_box (hF.get rfl) (by kernel_rfl)) ?_)
 intro g2 w3 a8 F9 z6 z7 b4 hx5; clear hF
 refine qv 1 (.bool false) F9 rfl (rn_assign rfl) fun _ F11 => ?_; clear F9
 refine wpList_nil ?_
 refine hK1 _ _ ?_
 clear hK1
 refine wp_seq_k (fun K12 hK12 => ?_)
 refine wp_region_lit ?_
 refine qv 0 (.int .i64 0) F11 rfl (rn_assign rfl) fun _ F14 => ?_; clear F11
 refine wpList_nil ?_
 refine hK12 _ _ ?_
 clear hK12
 refine wp_seq_k (fun K15 hK15 => ?_)
 refine wp_seq_k (fun K16 hK16 => ?_)
 refine wp_region_lit ?_
 refine qv 0 (.slice A R.length c) F14 rfl (rn_move (F14.get rfl)) fun _ F18 => ?_; clear F14
 refine qv 1 (.int .i64 (R.length : Nat)) F18 rfl (rn_len_slice Try.underlying22 (F18.get rfl)) fun _ F20 => ?_; clear F18
 refine qv 2 (.int .i64 0) F20 rfl (rn_move rfl) fun _ F22 => ?_; clear F20
 refine wpList_nil ?_
 refine hK16 _ _ ?_
 clear hK16
 refine wp_block ?_
 refine wp_loop (fun a' W => ∃ (k : Nat) (u : Int), Sl 34 [(0, (.agg #[(.slice X n x), (.slice Y p y), (.int .i64 lf), (.bool st)])), (1, (.slice A R.length c)), (2, (.pointer (some ⟨g2, 0, none⟩))), (4, (.bool false)), (5, (.int .i64 u)), (8, (.slice A R.length c)), (9, (.int .i64 (R.length : Nat))), (10, (.int .i64 (k : Nat)))] a' ∧ k ≤ R.length ∧ Ext w W ∧ Blk W g2 25 [(.slice X n x), (.slice Y p y), (.int .i64 lf), (.bool st)] ∧ w3.heap.size ≤ W.heap.size) (fun a' _ => R.length - (intOf (a'.eval (.tmp 10))).toNat) ⟨0, 0, ((((((((F22.nil.cons (q_get F22 (t := 10) rfl (by first | rfl | (congr 1; omega) | (congr 1; done)))).cons (q_get F22 (t := 9) rfl rfl)).cons (q_get F22 (t := 8) rfl rfl)).cons (q_get F22 (t := 5) rfl (by first | rfl | (congr 1; omega) | (congr 1; done)))).cons (q_get F22 (t := 4) rfl rfl)).cons (q_get F22 (t := 2) rfl rfl)).cons (q_get F22 (t := 1) rfl rfl)).cons (q_get F22 (t := 0) rfl rfl)), (by omega), ((Ext.refl w).trans hx5), b4, (Nat.le_refl _)⟩ ?_
 clear F22
 rintro a23 w24 ⟨k, u, F25, hp27, hx26, b28, hf29⟩
 have hL30 := F25
 have z31 := hx26.size
 have z32 := b28.lt
 refine wp_seq_k (fun K33 hK33 => ?_)
 refine wp_region_lit ?_
 refine qv 0 (.bool (decide (((k : Nat) : Int) < ((R.length : Nat) : Int)))) F25 rfl (rn_lss (F25.get rfl) (F25.get rfl)) fun _ F35 => ?_; clear F25
 refine wpList_nil ?_
 refine hK33 _ _ ?_
 clear hK33
 refine wp_seq_k (fun K36 hK36 => ?_)
 by_cases hc37 : ((k : Nat) : Int) < ((R.length : Nat) : Int)
 ·skip
  refine wp_cond_true (c_true F35 rfl (decide_eq_true hc37)) ?_
  refine wp_skip ?_
  refine hK36 _ _ ?_
  clear hK36
  refine wp_seq_k (fun K38 hK38 => ?_)
  refine wp_block ?_
  refine wp_seq_k (fun K39 hK39 => ?_)
  refine wp_region_lit ?_
  have d53 := (hnc.ext hx26)
  obtain ⟨x40, hi41, hm42⟩ := nth_of_lt R k (by omega)
  obtain ⟨b43, o44, A45, c46, hA47, hl48, hc49, hr50, le51, le52⟩ := RBss.get d53 hi41
  have z54 := hb x40 (List.mem_of_getElem? hi41)
  refine qv 0 (.pointer (some ⟨b43, o44 + k, none⟩)) F35 rfl (rn_index1 Try.underlying22 inf35 ((F35.get rfl).trans (by rw [hA47])) (F35.get rfl) (by omega : (0 : Int) ≤ (k : Nat)) (by omega : ((k : Nat) : Int) < ((R.length : Nat) : Int))) fun _ F56 => ?_; clear F35
  refine qv 1 (.slice A45 x40.length c46) F56 rfl (rn_load (isAgg_no Try.underlying35 rfl) (F56.get rfl) (Ext.keep (Ext.refl w24) hc49)) fun _ F58 => ?_; clear F56
  refine qv 2 (.slice A45 x40.length c46) F58 rfl (rn_assign (F58.get rfl)) fun _ F60 => ?_; clear F58
  refine wpList_nil ?_
  refine hK39 _ _ ?_
  clear hK39
  refine wp_region_lit ?_
  refine qv 0 (.int .i64 u) F60 rfl (rn_move (F60.get rfl)) fun _ F62 => ?_; clear F60
  refine qv 1 (.slice A45 x40.length c46) F62 rfl (rn_move (F62.get rfl)) fun _ F64 => ?_; clear F62
  refine qv 2 (.int .i64 (x40.length : Nat)) F64 rfl (rn_len_slice Try.underlying35 (F64.get rfl)) fun _ F66 => ?_; clear F64
  refine qv 3 (.int .i64 (1 + x40.length : Nat)) F66 rfl (rn_addN (a := 1) (b := x40.length) rfl (F66.get rfl) (by omega)) fun _ F68 => ?_; clear F66
  refine qv 4 (.int .i64 (wrapI (u + (1 + x40.length : Nat)))) F68 rfl (addW_ok (k := .i64) (F68.get rfl) (F68.get rfl)) fun _ F70 => ?_; clear F68
  refine qv 5 (.int .i64 (wrapI (u + (1 + x40.length : Nat)))) F70 rfl (rn_assign (F70.get rfl)) fun _ F72 => ?_; clear F70
  refine wpList_nil ?_
  refine hK38 _ _ ?_
  clear hK38
  have F73 := ((((((((((F72.nil.c F72 7 rfl).c F72 11 rfl).c F72 10 rfl).c F72 9 rfl).c F72 8 rfl).c F72 5 rfl).c F72 4 rfl).c F72 2 rfl).c F72 1 rfl).c F72 0 rfl)
  clear F72
  refine wp_region_lit ?_
  refine qv 0 (.int .i64 (k + 1 : Nat)) F73 rfl (rn_addN (a := k) (b := 1) (F73.get rfl) rfl (by omega)) fun _ F75 => ?_; clear F73
  refine qv 1 (.int .i64 (k + 1 : Nat)) F75 rfl (rn_move (F75.get rfl)) fun _ F77 => ?_; clear F75
  refine wpList_nil ?_
  refine ⟨⟨(k + 1), (wrapI (u + (1 + x40.length : Nat))), ((((((((F77.nil.cons (q_get F77 (t := 10) rfl (by first | rfl | (congr 1; omega) | (congr 1; done)))).cons (q_get F77 (t := 9) rfl rfl)).cons (q_get F77 (t := 8) rfl rfl)).cons (q_get F77 (t := 5) rfl (by first | rfl | (congr 1; omega) | (congr 1; done)))).cons (q_get F77 (t := 4) rfl rfl)).cons (q_get F77 (t := 2) rfl rfl)).cons (q_get F77 (t := 1) rfl rfl)).cons (q_get F77 (t := 0) rfl rfl)), (by omega), ((Ext.refl w).trans hx26), b28, (by omega)⟩, ?_⟩
  rw [F77.get (t := 10) rfl, hL30.get (t := 10) rfl]; simp [intOf] <;> omega
 ·skip
  refine wp_cond_false (c_false F35 rfl (decide_eq_false hc37)) ?_
  refine wp_exit ?_
  refine exit_then ?_
  refine exit_then ?_
  refine exit_here ?_
  refine hK15 _ _ ?_
  clear hK15
  refine wp_seq_k (fun K78 hK78 => ?_)
  refine wp_region_lit ?_
  refine qv 0 (.pointer (some ⟨g2, 0, none⟩)) F35 rfl (rn_field Try.underlying25 rfl (by kernel_rfl) (F35.get rfl) rfl) fun _ F80 => ?_; clear F35
  refine qv 1 (.slice X n x) F80 rfl (rn_load (isAgg_no Try.underlying22 rfl) (F80.get rfl) (b28.rule.1 0)) fun _ F82 => ?_; clear F80
  refine qv 2 (.int .i64 (n : Nat)) F82 rfl (rn_len_slice Try.underlying22 (F82.get rfl)) fun _ F84 => ?_; clear F82
  refine qv 3 (.bool (decide (((n : Nat) : Int) ≤ (40 : Int)))) F84 rfl (rn_leq (F84.get rfl) rfl) fun _ F86 => ?_; clear F84
  refine qv 4 (.bool (decide (((n : Nat) : Int) ≤ (40 : Int)))) F86 rfl (rn_move (F86.get rfl)) fun _ F88 => ?_; clear F86
  by_cases hc89 : ((n : Nat) : Int) ≤ (40 : Int)
  ·skip
   refine qg 5 (.pointer (some ⟨g2, 1, none⟩)) F88 (decide_eq_true hc89) (rn_field Try.underlying25 rfl (by kernel_rfl) (F88.get rfl) rfl) fun _ F91 => ?_; clear F88
   refine qg 6 (.slice Y p y) F91 (decide_eq_true hc89) (rn_load (isAgg_no Try.underlying23 rfl) (F91.get rfl) (b28.rule.1 1)) fun _ F93 => ?_; clear F91
   refine qg 7 (.int .i64 (p : Nat)) F93 (decide_eq_true hc89) (rn_len_slice Try.underlying23 (F93.get rfl)) fun _ F95 => ?_; clear F93
   refine qg 8 (.bool (decide (((p : Nat) : Int) ≤ (40 : Int)))) F95 (decide_eq_true hc89) (rn_leq (F95.get rfl) rfl) fun _ F97 => ?_; clear F95
   refine qv 9 (.bool (decide (((p : Nat) : Int) ≤ (40 : Int)))) F97 rfl (rn_pickT (c_true F97 rfl (decide_eq_true hc89)) (F97.get rfl)) fun _ F99 => ?_; clear F97
   refine qv 10 (.bool (decide (((p : Nat) : Int) ≤ (40 : Int)))) F99 rfl (rn_move (F99.get rfl)) fun _ F101 => ?_; clear F99
   by_cases hc102 : ((p : Nat) : Int) ≤ (40 : Int)
   ·skip
    refine qg 11 (.int .i64 u) F101 (decide_eq_true hc102) (rn_move (F101.get rfl)) fun _ F104 => ?_; clear F101
    refine qg 12 (.bool (decide ((u : Int) ≤ (4000 : Int)))) F104 (decide_eq_true hc102) (rn_leq (F104.get rfl) rfl) fun _ F106 => ?_; clear F104
    refine qv 13 (.bool (decide ((u : Int) ≤ (4000 : Int)))) F106 rfl (rn_pickT (c_true F106 rfl (decide_eq_true hc102)) (F106.get rfl)) fun _ F108 => ?_; clear F106
    refine qv 14 (.bool (decide ((u : Int) ≤ (4000 : Int)))) F108 rfl (rn_assign (F108.get rfl)) fun _ F110 => ?_; clear F108
    refine wpList_nil ?_
    refine hK78 _ _ ?_
    clear hK78
    have F111 := (((((((((F110.nil.c F110 11 rfl).c F110 10 rfl).c F110 9 rfl).c F110 8 rfl).c F110 5 rfl).c F110 4 rfl).c F110 2 rfl).c F110 1 rfl).c F110 0 rfl)
    clear F110
    refine wp_ret ?_
    refine ret1 F111 rfl rfl ?_
    exact ⟨_, rfl, fun h => ⟨by omega, by omega⟩, ((Ext.refl w).trans hx26)⟩
   ·skip
    refine qu 11 F101 (decide_eq_false hc102) fun _ F113 => ?_; clear F101
    refine qu 12 F113 (decide_eq_false hc102) fun _ F115 => ?_; clear F113
    refine qv 13 (.bool false) F115 rfl (rn_pickF (c_false F115 rfl (decide_eq_false hc102)) rfl) fun _ F117 => ?_; clear F115
    refine qv 14 (.bool false) F117 rfl (rn_assign (F117.get rfl)) fun _ F119 => ?_; clear F117
    refine wpList_nil ?_
    refine hK78 _ _ ?_
    clear hK78
    have F120 := (((((((((F119.nil.c F119 11 rfl).c F119 10 rfl).c F119 9 rfl).c F119 8 rfl).c F119 5 rfl).c F119 4 rfl).c F119 2 rfl).c F119 1 rfl).c F119 0 rfl)
    clear F119
    refine wp_ret ?_
    refine ret1 F120 rfl rfl ?_
    exact ⟨_, rfl, fun h => absurd h (by decide), ((Ext.refl w).trans hx26)⟩
  ·skip
   refine qu 5 F88 (decide_eq_false hc89) fun _ F122 => ?_; clear F88
   refine qu 6 F122 (decide_eq_false hc89) fun _ F124 => ?_; clear F122
   refine qu 7 F124 (decide_eq_false hc89) fun _ F126 => ?_; clear F124
   refine qu 8 F126 (decide_eq_false hc89) fun _ F128 => ?_; clear F126
   refine qv 9 (.bool false) F128 rfl (rn_pickF (c_false F128 rfl (decide_eq_false hc89)) rfl) fun _ F130 => ?_; clear F128
   refine qv 10 (.bool false) F130 rfl (rn_move (F130.get rfl)) fun _ F132 => ?_; clear F130
   refine qu 11 F132 rfl fun _ F134 => ?_; clear F132
   refine qu 12 F134 rfl fun _ F136 => ?_; clear F134
   refine qv 13 (.bool false) F136 rfl (rn_pickF (c_false F136 rfl rfl) rfl) fun _ F138 => ?_; clear F136
   refine qv 14 (.bool false) F138 rfl (rn_assign (F138.get rfl)) fun _ F140 => ?_; clear F138
   refine wpList_nil ?_
   refine hK78 _ _ ?_
   clear hK78
   have F141 := (((((((((F140.nil.c F140 11 rfl).c F140 10 rfl).c F140 9 rfl).c F140 8 rfl).c F140 5 rfl).c F140 4 rfl).c F140 2 rfl).c F140 1 rfl).c F140 0 rfl)
   clear F140
   refine wp_ret ?_
   refine ret1 F141 rfl rfl ?_
   exact ⟨_, rfl, fun h => absurd h (by decide), ((Ext.refl w).trans hx26)⟩

theorem few9_at {v : Value} (X : Option Addr) (n x : Nat) (Y : Option Addr) (p y : Nat) (lf : Int) (st : Bool) (R : List (List UInt8)) (w : World) (hn : RBss S w v R) (hb : ∀ x ∈ R, x.length ≤ 140737488355328) :
  Calls Try.prog 11 #[.agg #[.slice X n x, .slice Y p y, .int .i64 lf, .bool st], v] w (fun e w' => ∃ b : Bool, e = .returned (.bool b) ∧ (b = true → n ≤ 40 ∧ p ≤ 40) ∧ Ext w w') := by
 obtain ⟨A, c, rfl, _⟩ := hn.form
 exact few9_any X n x Y p y lf st A c R w hn hb

end Go.Proofs.Ytfmhnplkpohogaa

namespace Go.Proofs.Ytfmhnplkpohogaa
open Go.RowKit

variable {S S' : Nat → Prop}

set_option maxRecDepth 100000 in
set_option maxHeartbeats 1000000 in
theorem open_any (A : Option Addr) (c : Nat) (B : Option Addr) (e : Nat) (d : Dk) (w : World) (hd : RDk S w (.agg #[.slice A d.sectors.length c, .slice B d.pending.length e, .int .i64 d.left, .bool d.stopped]) d) :
  Calls Try.prog 12 #[.agg #[.slice A d.sectors.length c, .slice B d.pending.length e, .int .i64 d.left, .bool d.stopped]] w (OpenRet w d) := by
 have hdc := RDk.clip hd
 obtain ⟨hq1, hq2⟩ := (RDk.len hd).1.at.2.1
 obtain ⟨-, hq3, hq4⟩ := RSl.elem (RDk.len hd).2.1
 refine calls_enterM (l := [(.agg #[(.slice A d.sectors.length c), (.slice B d.pending.length e), (.int .i64 d.left), (.bool d.stopped)])]) Try.func12 rfl rfl rfl (fun a hF => ?_)
 refine wp_seq_k (fun K1 hK1 => ?_)
 refine wp_region_lit ?_
 refine wpl_op (i := 0) rfl (o_new (fun g => (.pointer (some ⟨g, 0, none⟩))) [(.slice A d.sectors.length c), (.slice B d.pending.length e), (.int .i64 d.left), (.bool d.stopped)] 25 hF rfl rfl rfl rfl (rn_box (hF.get rfl) (by kernel_rfl)) ?_)
 intro g2 w3 a8 F9 z6 z7 b4 hx5; clear hF
 refine wpl_op (i := 1) rfl (o_new (fun g => (.pointer (some ⟨g, 0, none⟩))) [(.int .i64 0), (.slice none 0 0), (.int .i64 0)] 29 F9 rfl rfl rfl rfl (by kernel_rfl) ?_)
 intro g10 w11 a16 F17 z14 z15 b12 hx13; clear F9
 refine qv 2 (.int .i64 0) F17 rfl (rn_assign rfl) fun _ F19 => ?_; clear F17
 refine wpList_nil ?_
 refine hK1 _ _ ?_
 clear hK1
 refine wp_seq_k (fun K20 hK20 => ?_)
 refine wp_seq_k (fun K21 hK21 => ?_)
 refine wp_region_lit ?_
 have b22 := (b4.ext hx13)
 refine qv 0 (.agg #[(.slice A d.sectors.length c), (.slice B d.pending.length e), (.int .i64 d.left), (.bool d.stopped)]) F19 rfl (rn_loadBlk (F19.get rfl) b22 Try.underlying25 rfl inf25) fun _ F24 => ?_; clear F19
 have d25 := ((hdc.ext hx5).ext hx13)
 refine wpl_op (i := 1) rfl (o_call F24 rfl rfl rfl rfl (rn_call (args1 (F24.get rfl)) rfl (by kernel_rfl)) (check_any (S := (Clip S w)) _ d _ d25) ?_)
 rintro _ w26 ⟨rfl, hx27⟩
 refine ⟨_, rfl, ?_⟩; intro a28 F29; clear F24; have z30 := hx27.size
 refine qv 2 (.int .i64 d.check) F29 rfl (rn_assign (F29.get rfl)) fun _ F32 => ?_; clear F29
 refine wpList_nil ?_
 refine hK21 _ _ ?_
 clear hK21
 refine wp_seq_k (fun K33 hK33 => ?_)
 refine wp_region_lit ?_
 refine qv 0 (.int .i64 d.check) F32 rfl (rn_move (F32.get rfl)) fun _ F35 => ?_; clear F32
 refine qv 1 (.bool (decide ((d.check : Int) ≠ (0 : Int)))) F35 rfl (rn_neq (F35.get rfl) rfl) fun _ F37 => ?_; clear F35
 refine wpList_nil ?_
 refine hK33 _ _ ?_
 clear hK33
 by_cases hc38 : (d.check : Int) ≠ (0 : Int)
 ·skip
  have hck : d.check ≠ 0 := hc38
  refine wp_cond_true (c_true F37 rfl (decide_eq_true hc38)) ?_
  refine wp_seq_k (fun K39 hK39 => ?_)
  refine wp_region_lit ?_
  refine qv 0 (.agg #[(.int .i64 0), (.slice none 0 0), (.int .i64 0)]) F37 rfl (rn_build (parts0 ) (by kernel_rfl)) fun _ F41 => ?_; clear F37
  refine qv 1 (.int .i64 d.check) F41 rfl (rn_move (F41.get rfl)) fun _ F43 => ?_; clear F41
  have b47 := (b12.ext hx27)
  refine wpl_op (i := 2) rfl (o_store (cells := [(.int .i64 0), (.slice none 0 0), (.int .i64 0)]) F43 rfl rfl rfl rfl (F43.get rfl) (F43.get rfl) b47 inf29 rfl (by simp [Value.oneCell']) ?_)
  intro w44 b45 hg46; have z48 := hg46.size
  refine qv 3 (.int .i64 d.check) F43 rfl (rn_assign (F43.get rfl)) fun _ F50 => ?_; clear F43
  refine wpList_nil ?_
  refine hK39 _ _ ?_
  clear hK39
  have F51 := ((((((F50.nil.c F50 10 rfl).c F50 4 rfl).c F50 3 rfl).c F50 2 rfl).c F50 1 rfl).c F50 0 rfl)
  clear F50
  refine wp_ret ?_
  refine ret_then ?_
  refine retM ?_
  refine retC1 F51 rfl rfl rfl b45 Try.underlying29 rfl inf29 ?_
  exact open_err (openE_1 hck) (by omega) (((((Ext.refl w).trans hx5).trans hx13).trans hx27).grownN hg46 (by omega))
 ·skip
  have hck : d.check = 0 := Decidable.not_not.1 hc38
  refine wp_cond_false (c_false F37 rfl (decide_eq_false hc38)) ?_
  refine wp_skip ?_
  refine hK20 _ _ ?_
  clear hK20
  refine wp_seq_k (fun K52 hK52 => ?_)
  refine wp_seq_k (fun K53 hK53 => ?_)
  refine wp_region_lit ?_
  refine qv 0 (.pointer (some ⟨g2, 3, none⟩)) F37 rfl (rn_field Try.underlying25 rfl (by kernel_rfl) (F37.get rfl) rfl) fun _ F55 => ?_; clear F37
  have b56 := (b22.ext hx27)
  refine qv 1 (.bool d.stopped) F55 rfl (rn_load (isAgg_no Try.underlying4 rfl) (F55.get rfl) (b56.rule.1 3)) fun _ F58 => ?_; clear F55
  refine wpList_nil ?_
  refine hK53 _ _ ?_
  clear hK53
  have F59 := (((((((F58.nil.c F58 14 rfl).c F58 10 rfl).c F58 4 rfl).c F58 3 rfl).c F58 2 rfl).c F58 1 rfl).c F58 0 rfl)
  clear F58
  rcases Bool.eq_false_or_eq_true d.stopped with hc60 | hc60
  ·skip
   have hst := hc60
   refine wp_cond_true (c_true F59 rfl hc60) ?_
   refine wp_seq_k (fun K61 hK61 => ?_)
   refine wp_region_lit ?_
   refine qv 0 (.agg #[(.int .i64 0), (.slice none 0 0), (.int .i64 0)]) F59 rfl (rn_build (parts0 ) (by kernel_rfl)) fun _ F63 => ?_; clear F59
   have b67 := (b12.ext hx27)
   refine wpl_op (i := 1) rfl (o_store (cells := [(.int .i64 0), (.slice none 0 0), (.int .i64 0)]) F63 rfl rfl rfl rfl (F63.get rfl) (F63.get rfl) b67 inf29 rfl (by simp [Value.oneCell']) ?_)
   intro w64 b65 hg66; have z68 := hg66.size
   refine qv 2 (.int .i64 380) F63 rfl (rn_assign rfl) fun _ F70 => ?_; clear F63
   refine wpList_nil ?_
   refine hK61 _ _ ?_
   clear hK61
   refine wp_ret ?_
   refine ret_then ?_
   refine retM ?_
   refine retC1 F70 rfl rfl rfl b65 Try.underlying29 rfl inf29 ?_
   exact open_err (openE_2 hck hst) (by omega) (((((Ext.refl w).trans hx5).trans hx13).trans hx27).grownN hg66 (by omega))
  ·skip
   have hst := hc60
   refine wp_cond_false (c_false F59 rfl hc60) ?_
   refine wp_skip ?_
   refine hK52 _ _ ?_
   clear hK52
   refine wp_seq_k (fun K71 hK71 => ?_)
   refine wp_seq_k (fun K72 hK72 => ?_)
   refine wp_region_lit ?_
   refine qv 0 (.pointer (some ⟨g2, 1, none⟩)) F59 rfl (rn_field Try.underlying25 rfl (by kernel_rfl) (F59.get rfl) rfl) fun _ F74 => ?_; clear F59
   refine qv 1 (.slice B d.pending.length e) F74 rfl (rn_load (isAgg_no Try.underlying23 rfl) (F74.get rfl) (b56.rule.1 1)) fun _ F76 => ?_; clear F74
   refine qv 2 (.int .i64 (d.pending.length : Nat)) F76 rfl (rn_len_slice Try.underlying23 (F76.get rfl)) fun _ F78 => ?_; clear F76
   refine qv 3 (.bool (decide ((0 : Int) < ((d.pending.length : Nat) : Int)))) F78 rfl (rn_gtr (F78.get rfl) rfl) fun _ F80 => ?_; clear F78
   refine wpList_nil ?_
   refine hK72 _ _ ?_
   clear hK72
   by_cases hc81 : (0 : Int) < ((d.pending.length : Nat) : Int)
   ·skip
    have hpe : 0 < d.pending.length := by omega
    refine wp_cond_true (c_true F80 rfl (decide_eq_true hc81)) ?_
    refine wp_seq_k (fun K82 hK82 => ?_)
    refine wp_region_lit ?_
    refine qv 0 (.agg #[(.int .i64 0), (.slice none 0 0), (.int .i64 0)]) F80 rfl (rn_build (parts0 ) (by kernel_rfl)) fun _ F84 => ?_; clear F80
    have b88 := (b12.ext hx27)
    refine wpl_op (i := 1) rfl (o_store (cells := [(.int .i64 0), (.slice none 0 0), (.int .i64 0)]) F84 rfl rfl rfl rfl (F84.get rfl) (F84.get rfl) b88 inf29 rfl (by simp [Value.oneCell']) ?_)
    intro w85 b86 hg87; have z89 := hg87.size
    refine qv 2 (.int .i64 1) F84 rfl (rn_assign rfl) fun _ F91 => ?_; clear F84
    refine wpList_nil ?_
    refine hK82 _ _ ?_
    clear hK82
    have F92 := ((((((((F91.nil.c F91 19 rfl).c F91 14 rfl).c F91 10 rfl).c F91 4 rfl).c F91 3 rfl).c F91 2 rfl).c F91 1 rfl).c F91 0 rfl)
    clear F91
    refine wp_ret ?_
    refine ret_then ?_
    refine retM ?_
    refine retC1 F92 rfl rfl rfl b86 Try.underlying29 rfl inf29 ?_
    exact open_err (openE_3 hck hst hpe) (by omega) (((((Ext.refl w).trans hx5).trans hx13).trans hx27).grownN hg87 (by omega))
   ·skip
    have hpe : ¬ 0 < d.pending.length := by omega
    have hrun := runs_of_check hck hst; obtain ⟨-, hl, -, -, -, -, -, hL⟩ := runs_facts hrun
    refine wp_cond_false (c_false F80 rfl (decide_eq_false hc81)) ?_
    refine wp_skip ?_
    refine hK71 _ _ ?_
    clear hK71
    refine wp_seq_k (fun K93 hK93 => ?_)
    have d94 := (((hdc.ext hx5).ext hx13).ext hx27)
    have hf95 := (RDk.len d94).1
    refine wp_region_lit ?_
    refine qv 0 (.pointer (some ⟨g2, 0, none⟩)) F80 rfl (rn_field Try.underlying25 rfl (by kernel_rfl) (F80.get rfl) rfl) fun _ F97 => ?_; clear F80
    refine qv 1 (.slice A d.sectors.length c) F97 rfl (rn_load (isAgg_no Try.underlying22 rfl) (F97.get rfl) (b56.rule.1 0)) fun _ F99 => ?_; clear F97
    refine qv 2 (.int .i64 (d.sectors.length : Nat)) F99 rfl (rn_len_slice Try.underlying22 (F99.get rfl)) fun _ F101 => ?_; clear F99
    refine qv 3 (.pointer (some ⟨g10, 0, none⟩)) F101 rfl (rn_field Try.underlying29 rfl (by kernel_rfl) (F101.get rfl) rfl) fun _ F103 => ?_; clear F101
    have b107 := (b12.ext hx27)
    refine wpl_op (i := 4) rfl (o_store1 (new := [(.int .i64 (d.sectors.length : Nat)), (.slice none 0 0), (.int .i64 0)]) F103 rfl rfl rfl rfl (F103.get rfl) (F103.get rfl) b107 inf3 (by simp) rfl rfl ?_)
    intro w104 b105 hg106; have z108 := hg106.size
    refine wpList_nil ?_
    refine hK93 _ _ ?_
    clear hK93
    have F109 := ((((((((F103.nil.c F103 19 rfl).c F103 14 rfl).c F103 10 rfl).c F103 4 rfl).c F103 3 rfl).c F103 2 rfl).c F103 1 rfl).c F103 0 rfl)
    clear F103
    refine wp_seq_k (fun K110 hK110 => ?_)
    refine wp_seq_k (fun K111 hK111 => ?_)
    refine wp_region_lit ?_
    refine qv 0 (.pointer (some ⟨g2, 0, none⟩)) F109 rfl (rn_field Try.underlying25 rfl (by kernel_rfl) (F109.get rfl) rfl) fun _ F113 => ?_; clear F109
    have b114 := (b56.grownN hg106 (by omega))
    refine qv 1 (.slice A d.sectors.length c) F113 rfl (rn_load (isAgg_no Try.underlying22 rfl) (F113.get rfl) (b114.rule.1 0)) fun _ F116 => ?_; clear F113
    refine wpl_op (i := 2) rfl (o_call F116 rfl rfl rfl rfl (rn_call (args1 (F116.get rfl)) rfl (by kernel_rfl)) (recsfn_any _ _ _ _) ?_)
    rintro _ w120 ⟨g117, z118, rfl, b119, hx121⟩
    refine ⟨_, rfl, ?_⟩; intro a122 F123; clear F116; have z124 := hx121.size
    have z125 := b119.lt
    refine wpList_nil ?_
    refine hK111 _ _ ?_
    clear hK111
    refine wp_block ?_
    have b126 := (b105.ext hx121)
    have hf127 := b126
    have hf128 := b119
    have d129 := (hf95.pres (((Pres.refl w26).grownN hg106 (fun h => by simp only [Clip] at h; omega)).ext hx121))
    have hf130 := d129
    have hf131 := ((((((Ext.refl w).trans hx5).trans hx13).trans hx27).grownN hg106 (by omega)).trans hx121)
    refine wp_range F123.2.1 (F123.get rfl) (fun _ _ => rfl) (records1_iter (S := Clip S w) A c d.sectors g117 (w120.heap.size + 2) hL hl) (OpenI S w A c d.sectors g10 g117 (w120.heap.size + 2)) (fun _ _ _ h hx => h.ext hx) (fun _ _ _ h hg _ => h.loop hg (by omega) (by omega) (by omega) (by omega)) (fun W hx hs => ?_) (fun _ _ h => h.h) ?_ ?_
    ·exact ⟨none, 0, [], hf127.ext hx, own_nil W (w120.heap.size + 2) 35 1, RVs.nil _ _ _, hf128.ext hx, hf130.ext hx, hf131.trans hx⟩
    ·rintro pre x args W hi ⟨k, Ax, n, cx, base, rfl, hrow, hbase⟩ ⟨tl, htl⟩ hsz
     have hpl := congrArg List.length htl; rw [List.length_append, List.length_cons] at hpl; have hrl := recs_len d.sectors
     refine ⟨rfl, region_in rfl (by rintro ⟨_, _, h⟩; exact h) ?_⟩
     have F132 := F123.round2 (p := 28) (q := 29) (v := .int .i64 (k : Nat)) (u := .slice Ax n cx) rfl rfl
     have hor := own_form0 hrow
     refine qv 0 (.slice Ax n cx) F132 rfl (rn_assign (F132.get rfl)) fun _ F134 => ?_; clear F132
     refine wpList_nil ?_
     refine ⟨rfl, fun W2 hg2 hl2 hi2 => ?_⟩
     have hz2 := hg2.size; obtain ⟨An, cn, vs, b1, r1, rv1, bB1, bs1, hx1⟩ := hi2; have hor2 := own_form0 r1; have hzx := hx1.size
     have hrow2 := own_loop hrow hg2 (by omega)
     refine wpIn_block (region_in rfl (by rintro ⟨_, _, h, _⟩; cases h) ?_)
     have z135 := b1.lt; have z136 := bB1.lt
     refine qv 0 (.pointer (some ⟨g10, 1, none⟩)) F134 rfl (rn_field Try.underlying29 rfl (by kernel_rfl) (F134.get rfl) rfl) fun _ F138 => ?_; clear F134
     refine qv 1 (.slice An pre.length cn) F138 rfl (rn_load (isAgg_no Try.underlying22 rfl) (F138.get rfl) (b1.rule.1 1)) fun _ F140 => ?_; clear F138
     refine qv 2 (.slice Ax n cx) F140 rfl (rn_move (F140.get rfl)) fun _ F142 => ?_; clear F140
     have hf143 := r1
     refine wpl_op (i := 3) rfl (o_new (fun g => (.slice (some ⟨g, 0, none⟩) 1 1)) [(.slice Ax n cx)] 35 F142 rfl rfl rfl rfl (rn_buildSlice (parts1 (F142.get rfl)) (by kernel_rfl)) ?_)
     intro g144 w145 a150 F151 z148 z149 b146 hx147; clear F142
     have nb152 := own_new (g := g144) hf143 (by omega)
     have rv153 := (RVs.ext rv1 hx147)
     have r154 := (own_ext hrow2 hx147)
     have hf155 := r154
     have r156 := (own_ext r1 hx147)
     have hf157 := r156
     have hf158 := own_rbs hf155
     have hf167 := r156
     have nb168 : some g144 ≠ (Value.slice An pre.length cn).ownBlock := nb152
     have z169 := b146.lt
     have hf170 := r154
     have ap171 : Apart (.slice Ax n cx) (.slice An pre.length cn) := (Apart.types r154 r156 (by decide))
     refine wpl_op (i := 4) rfl (o_appB (zs := rawVals (vs ++ ([(.slice Ax n cx)]))) El22 F151 rfl rfl rfl rfl rfl (F151.get rfl) (F151.get rfl) hf167 (Fl.cel (Fl.blk (S := fun b => b = g144) (k := 1) (n := 1) (c := 1) (cs := rawVals [(.slice Ax n cx)]) b146 rfl (one_slices (by simp)) (by omega) rfl)).2.2 (by omega) (by omega) (by omega) (rawVals_app _ _) ?_)
     intro A159 c160 w161 a172 F173 r162 hg163 z164 z165 hnb166; clear F151; have z174 := hg163.size
     have nb175 := hnb166 g144 (by omega) nb168
     have rv176 := RVs.app (v' := (.slice A159 (pre.length + 1) c160)) (RVs.snoc rv153 hf158 (fun b _ hb => ⟨by have := own_ge hf155 b hb; omega, own_types hf155 hf157 (by decide) b hb⟩)) hg163 hnb166
     refine qv 5 (.pointer (some ⟨g10, 1, none⟩)) F173 rfl (rn_field Try.underlying29 rfl (by kernel_rfl) (F173.get rfl) rfl) fun _ F178 => ?_; clear F173
     have b182 := (grown_blk hf167 hg163 (b1.ext hx147) (by decide))
     refine wpl_op (i := 6) rfl (o_store1 (new := [(.int .i64 (d.sectors.length : Nat)), (.slice A159 (pre.length + 1) c160), (.int .i64 0)]) F178 rfl rfl rfl rfl (F178.get rfl) (F178.get rfl) b182 inf22 (by simp) rfl rfl ?_)
     intro w179 b180 hg181; have z183 := hg181.size
     refine wpList_nil ?_
     have r184 := (own_grownT r162 b182 hg181 (by decide))
     have b185 := ((grown_blk hf167 hg163 (bB1.ext hx147) (by decide)).grownN hg181 (by omega))
     have d186 := (bs1.pres ((Pres.row ((Pres.refl W2).ext hx147) hg163 hf167 (fun b hb h => by simp only [Clip] at h; omega)).grownN hg181 (fun h => by simp only [Clip] at h; omega)))
     exact ⟨rfl, OpenI.step (n := pre.length + 1) (by simp) b180 r184 (RVs.set rv176 hg181 (by omega)) b185 d186 ((ext_row (((Ext.refl w).trans hx1).trans hx147) hg163 hf167 (by omega)).grownN hg181 (by omega)), ((((KeepsOthers.refl W2).trans (KeepsOthers.of_ext hx147)).trans (KeepsOthers.own hg163 hf167)).trans (KeepsOthers.blk hg181 b182))⟩
    ·intro W hi hk hsz
     obtain ⟨An, cn, vs, b1, r1, rv1, bB1, bs1, hx1⟩ := hi; have hor2 := own_form0 r1; have hzx := hx1.size
     have hbs := RVs.bss rv1 r1
     obtain ⟨hfn, hfc⟩ := RBss.at hbs |>.2.1
     have F187 := SlD.of (ds := [{ target := .collected w120.heap.size, args := #[] }]) F123
     have z188 := b1.lt
     refine hK110 _ _ ?_
     clear hK110
     refine wp_seq_k (fun K189 hK189 => ?_)
     refine wp_region_lit ?_
     refine wpl_op (i := 0) rfl (oD_val (v := (.pointer (some ⟨g10, 1, none⟩))) F187 rfl rfl rfl rfl (rn_field Try.underlying29 rfl (by kernel_rfl) (F187.get rfl) rfl) ?_)
     intro a190 F191; clear F187
     refine wpl_op (i := 1) rfl (oD_val (v := (.slice An ((recsOf d.sectors).length) cn)) F191 rfl rfl rfl rfl (rn_load (isAgg_no Try.underlying22 rfl) (F191.get rfl) (b1.rule.1 1)) ?_)
     intro a192 F193; clear F191
     refine wpl_op (i := 2) rfl (oD_val (v := (.int .i64 ((recsOf d.sectors).length : Nat))) F193 rfl rfl rfl rfl (rn_len_slice Try.underlying22 (F193.get rfl)) ?_)
     intro a194 F195; clear F193
     refine wpl_op (i := 3) rfl (oD_val (v := (.pointer (some ⟨g10, 2, none⟩))) F195 rfl rfl rfl rfl (rn_field Try.underlying29 rfl (by kernel_rfl) (F195.get rfl) rfl) ?_)
     intro a196 F197; clear F195
     refine wpl_op (i := 4) rfl (oD_store1 (new := [(.int .i64 (d.sectors.length : Nat)), (.slice An ((recsOf d.sectors).length) cn), (.int .i64 ((recsOf d.sectors).length : Nat))]) F197 rfl rfl rfl rfl (F197.get rfl) (F197.get rfl) b1 inf3 (by simp) rfl rfl ?_)
     intro w198 b199 hg200; have z201 := hg200.size
     refine wpList_nil ?_
     refine hK189 _ _ ?_
     clear hK189
     have F202 := ((((((((F197.nil.c F197 19 rfl).c F197 14 rfl).c F197 10 rfl).c F197 4 rfl).c F197 3 rfl).c F197 2 rfl).c F197 1 rfl).c F197 0 rfl)
     clear F197
     refine wp_seq_k (fun K203 hK203 => ?_)
     refine wp_region_lit ?_
     refine wpl_op (i := 0) rfl (oD_val (v := (.agg #[(.int .i64 (d.sectors.length : Nat)), (.slice An ((recsOf d.sectors).length) cn), (.int .i64 ((recsOf d.sectors).length : Nat))])) F202 rfl rfl rfl rfl (rn_loadBlk (F202.get rfl) b199 Try.underlying29 rfl inf29) ?_)
     intro a204 F205; clear F202
     refine wpl_op (i := 1) rfl (oD_store (cells := [(.int .i64 (d.sectors.length : Nat)), (.slice An ((recsOf d.sectors).length) cn), (.int .i64 ((recsOf d.sectors).length : Nat))]) F205 rfl rfl rfl rfl (F205.get rfl) (F205.get rfl) b199 inf29 rfl (by simp [Value.oneCell']) ?_)
     intro w206 b207 hg208; have z209 := hg208.size
     refine wpl_op (i := 2) rfl (oD_val (v := (.int .i64 0)) F205 rfl rfl rfl rfl (rn_assign rfl) ?_)
     intro a210 F211; clear F205
     refine wpList_nil ?_
     refine hK203 _ _ ?_
     clear hK203
     refine wp_ret ?_
     refine retMD F211.2 ((hg208.block _ (by omega) (fun e => by injection e with e; omega)).trans ((hg200.block _ (by omega) (fun e => by injection e with e; omega)).trans hk)) (fun w212 hg213 => ?_)
     have z214 := hg213.size
     have b215 := (b207.grownN hg213 (by omega))
     refine retC1 F211.1 rfl rfl rfl b215 Try.underlying29 rfl inf29 ?_
     have he := openE_0 hck hst hpe; obtain ⟨hr, hm⟩ := open_good he
     have d216 := (hbs.pres ((((Pres.refl W).grownN hg200 (fun h => by have h : (w120.heap.size + 2) ≤ _ := h; omega)).grownN hg208 (fun h => by have h : (w120.heap.size + 2) ≤ _ := h; omega)).grownN hg213 (fun h => by have h : (w120.heap.size + 2) ≤ _ := h; omega)))
     exact open_fin he hm hr (d216.sub (fun b hb => by omega)) (((((Ext.refl w).trans hx1).grownN hg200 (by omega)).grownN hg208 (by omega)).grownN hg213 (by omega))

theorem open_at {v : Value} (d : Dk) (w : World) (hd : RDk S w v d) : Calls Try.prog 12 #[v] w (OpenRet w d) := by
 obtain ⟨A, c, B, e, rfl, -, -⟩ := hd.form
 exact open_any A c B e d w hd

end Go.Proofs.Ytfmhnplkpohogaa
