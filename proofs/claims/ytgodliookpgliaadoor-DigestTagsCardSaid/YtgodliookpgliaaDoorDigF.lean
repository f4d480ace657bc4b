/- Contracts of slices.Grow and slices.Concat. -/
import Derived.Test.YtgodliookpgliaaDoorProg
import Derived.Test.YtgodliookpgliaaDoorElA
import Derived.KernelRfl
namespace Go.Proofs.YtgodliookpgliaaDoor
open Go.RowKit

variable {S S' : Nat → Prop}

set_option maxRecDepth 100000 in
set_option maxHeartbeats 1000000 in
theorem grow_any (n : Nat) (w : World) (hn : n ≤ 140737488355328) :
    Calls Tryd.prog 40 #[.slice none 0 0, .int .i64 (n : Nat)] w (fun e w' => ∃ A c, e = .returned (.slice A 0 c) ∧ w'.ownsRow w.heap.size 5 1 (.slice A 0 c) 0 [] ∧ Ext w w') := by
  refine calls_enter (l := [(.slice none 0 0), (.int .i64 (n : Nat))]) Tryd.func40 rfl rfl rfl (fun aA hF => ?_)
  refine wp_seq_k (fun K1 hK1 => ?_)
  refine wp_region_lit ?_
  refine wpl_op (i := 0) rfl (o_val (v := (.slice none 0 0)) hF rfl rfl rfl rfl (rn_assign rfl) ?_)
  intro a2 hF3; clear hF
  refine wpList_nil ?_
  refine hK1 _ _ ?_
  clear hK1
  refine wp_seq_k (fun K4 hK4 => ?_)
  refine wp_seq_k (fun K5 hK5 => ?_)
  refine wp_region_lit ?_
  refine wpl_op (i := 0) rfl (o_val (v := (.int .i64 (n : Nat))) hF3 rfl rfl rfl rfl (rn_move (hF3.get rfl)) ?_)
  intro a6 hF7; clear hF3
  refine wpl_op (i := 1) rfl (o_val (v := (.bool (decide (((n : Nat) : Int) < (0 : Int))))) hF7 rfl rfl rfl rfl (rn_lss (hF7.get rfl) rfl) ?_)
  intro a8 hF9; clear hF7
  refine wpList_nil ?_
  refine hK5 _ _ ?_
  clear hK5
  by_cases hc10 : ((n : Nat) : Int) < (0 : Int)
  · skip
    refine wp_cond_true (c_true hF9 rfl (decide_eq_true hc10)) ?_
    exfalso; omega
  · skip
    refine wp_cond_false (c_false hF9 rfl (decide_eq_false hc10)) ?_
    refine wp_skip ?_
    refine hK4 _ _ ?_
    clear hK4
    refine wp_seq_k (fun K11 hK11 => ?_)
    refine wp_seq_k (fun K12 hK12 => ?_)
    refine wp_region_lit ?_
    refine wpl_op (i := 0) rfl (o_val (v := (.int .i64 (n : Nat))) hF9 rfl rfl rfl rfl (rn_move (hF9.get rfl)) ?_)
    intro a13 hF14; clear hF9
    refine wpl_op (i := 1) rfl (o_val (v := (.slice none 0 0)) hF14 rfl rfl rfl rfl (rn_move (hF14.get rfl)) ?_)
    intro a15 hF16; clear hF14
    refine wpl_op (i := 2) rfl (o_val (v := (.int .i64 0)) hF16 rfl rfl rfl rfl (rn_cap Tryd.underlying22 (hF16.get rfl)) ?_)
    intro a17 hF18; clear hF16
    refine wpl_op (i := 3) rfl (o_val (v := (.slice none 0 0)) hF18 rfl rfl rfl rfl (rn_move (hF18.get rfl)) ?_)
    intro a19 hF20; clear hF18
    refine wpl_op (i := 4) rfl (o_val (v := (.int .i64 0)) hF20 rfl rfl rfl rfl (rn_len_slice Tryd.underlying22 (hF20.get rfl)) ?_)
    intro a21 hF22; clear hF20
    refine wpl_op (i := 5) rfl (o_val (v := (.int .i64 0)) hF22 rfl rfl rfl rfl (rn_sub (hF22.get rfl) (hF22.get rfl) (by omega) (by omega)) ?_)
    intro a23 hF24; clear hF22
    refine wpl_op (i := 6) rfl (o_val (v := (.int .i64 (n : Nat))) hF24 rfl rfl rfl rfl (rn_sub (hF24.get rfl) (hF24.get rfl) (by omega) (by omega)) ?_)
    intro a25 hF26; clear hF24
    refine wpl_op (i := 7) rfl (o_val (v := (.int .i64 (n : Nat))) hF26 rfl rfl rfl rfl (rn_assign (hF26.get rfl)) ?_)
    intro a27 hF28; clear hF26
    refine wpList_nil ?_
    refine hK12 _ _ ?_
    clear hK12
    have hF29 := ((((hF28.nil.cons (hF28.get (t := 6) (v := (.bool (decide (((n : Nat) : Int) < (0 : Int))))) rfl)).cons (hF28.get (t := 4) (v := (.slice none 0 0)) rfl)).cons (hF28.get (t := 1) (v := (.int .i64 (n : Nat))) rfl)).cons (hF28.get (t := 0) (v := (.slice none 0 0)) rfl))
    clear hF28
    refine wp_seq_k (fun K30 hK30 => ?_)
    refine wp_region_lit ?_
    refine wpl_op (i := 0) rfl (o_val (v := (.int .i64 (n : Nat))) hF29 rfl rfl rfl rfl (rn_move (hF29.get rfl)) ?_)
    intro a31 hF32; clear hF29
    refine wpl_op (i := 1) rfl (o_val (v := (.bool (decide ((0 : Int) < ((n : Nat) : Int))))) hF32 rfl rfl rfl rfl (rn_gtr (hF32.get rfl) rfl) ?_)
    intro a33 hF34; clear hF32
    refine wpList_nil ?_
    refine hK30 _ _ ?_
    clear hK30
    by_cases hc35 : (0 : Int) < ((n : Nat) : Int)
    · skip
      refine wp_cond_true (c_true hF34 rfl (decide_eq_true hc35)) ?_
      refine wp_region_lit ?_
      refine wpl_op (i := 0) rfl (o_val (v := (.slice none 0 0)) hF34 rfl rfl rfl rfl (rn_move (hF34.get rfl)) ?_)
      intro a36 hF37; clear hF34
      refine wpl_op (i := 1) rfl (o_val (v := (.slice none 0 0)) hF37 rfl rfl rfl rfl (rn_move (hF37.get rfl)) ?_)
      intro a38 hF39; clear hF37
      refine wpl_op (i := 2) rfl (o_val (v := (.int .i64 0)) hF39 rfl rfl rfl rfl (rn_cap Tryd.underlying22 (hF39.get rfl)) ?_)
      intro a40 hF41; clear hF39
      refine wpl_op (i := 3) rfl (o_val (v := (.slice none 0 0)) hF41 rfl rfl rfl rfl (rn_sliceHi Tryd.underlying22 (by kernel_rfl : (Tryd.prog.info? 5).map (·.size) = some 1) (hF41.get rfl) (hF41.get rfl) (by omega : (0 : Int) ≤ 0) (by omega : (0 : Int) ≤ ((0 : Nat) : Int))) ?_)
      intro a42 hF43; clear hF41
      refine wpl_op (i := 4) rfl (o_val (v := (.int .i64 (n : Nat))) hF43 rfl rfl rfl rfl (rn_move (hF43.get rfl)) ?_)
      intro a44 hF45; clear hF43
      refine wpl_op (i := 5) rfl (o_zeros El22 hF45 rfl rfl rfl rfl rfl Tryd.underlying3 (hF45.get rfl) (hF45.get rfl) (by omega) (by omega) (by omega) ?_)
      intro g46 c47 ys48 w49 a55 hF56 z50 z51 z52 r53 hx54; clear hF45
      have z57 := own_lt r53
      refine wpl_op (i := 6) rfl (o_val (v := (.slice none 0 0)) hF56 rfl rfl rfl rfl (rn_move (hF56.get rfl)) ?_)
      intro a58 hF59; clear hF56
      refine wpl_op (i := 7) rfl (o_val (v := (.int .i64 0)) hF59 rfl rfl rfl rfl (rn_len_slice Tryd.underlying22 (hF59.get rfl)) ?_)
      intro a60 hF61; clear hF59
      refine wpl_op (i := 8) rfl (o_val (v := (.slice (some ⟨g46, 0, none⟩) 0 c47)) hF61 rfl rfl rfl rfl (rn_sliceHi Tryd.underlying22 (by kernel_rfl : (Tryd.prog.info? 5).map (·.size) = some 1) (hF61.get rfl) (hF61.get rfl) (by omega : (0 : Int) ≤ 0) (by omega : (0 : Int) ≤ ((c47 : Nat) : Int))) ?_)
      intro a62 hF63; clear hF61
      refine wpl_op (i := 9) rfl (o_val (v := (.slice (some ⟨g46, 0, none⟩) 0 c47)) hF63 rfl rfl rfl rfl (rn_assign (hF63.get rfl)) ?_)
      intro a64 hF65; clear hF63
      refine wpList_nil ?_
      refine hK11 _ _ ?_
      clear hK11
      have hF66 := (((((hF65.nil.cons (hF65.get (t := 16) (v := (.bool (decide ((0 : Int) < ((n : Nat) : Int))))) rfl)).cons (hF65.get (t := 6) (v := (.bool (decide (((n : Nat) : Int) < (0 : Int))))) rfl)).cons (hF65.get (t := 4) (v := (.slice none 0 0)) rfl)).cons (hF65.get (t := 1) (v := (.int .i64 (n : Nat))) rfl)).cons (hF65.get (t := 0) (v := (.slice (some ⟨g46, 0, none⟩) 0 c47)) rfl))
      clear hF65
      refine wp_seq_k (fun K67 hK67 => ?_)
      refine wp_region_lit ?_
      refine wpl_op (i := 0) rfl (o_val (v := (.slice (some ⟨g46, 0, none⟩) 0 c47)) hF66 rfl rfl rfl rfl (rn_move (hF66.get rfl)) ?_)
      intro a68 hF69; clear hF66
      refine wpl_op (i := 1) rfl (o_val (v := (.slice (some ⟨g46, 0, none⟩) 0 c47)) hF69 rfl rfl rfl rfl (rn_assign (hF69.get rfl)) ?_)
      intro a70 hF71; clear hF69
      refine wpList_nil ?_
      refine hK67 _ _ ?_
      clear hK67
      refine wp_ret ?_
      refine ret1 hF71 rfl rfl ?_
      exact ⟨_, _, rfl, own_zero r53, ((Ext.refl w).trans hx54)⟩
    · skip
      refine wp_cond_false (c_false hF34 rfl (decide_eq_false hc35)) ?_
      refine wp_skip ?_
      refine hK11 _ _ ?_
      clear hK11
      refine wp_seq_k (fun K72 hK72 => ?_)
      refine wp_region_lit ?_
      refine wpl_op (i := 0) rfl (o_val (v := (.slice none 0 0)) hF34 rfl rfl rfl rfl (rn_move (hF34.get rfl)) ?_)
      intro a73 hF74; clear hF34
      refine wpl_op (i := 1) rfl (o_val (v := (.slice none 0 0)) hF74 rfl rfl rfl rfl (rn_assign (hF74.get rfl)) ?_)
      intro a75 hF76; clear hF74
      refine wpList_nil ?_
      refine hK72 _ _ ?_
      clear hK72
      refine wp_ret ?_
      refine ret1 hF76 rfl rfl ?_
      exact ⟨none, 0, rfl, own_nil _ _ _ _, (Ext.refl w)⟩

set_option maxRecDepth 100000 in
set_option maxHeartbeats 1000000 in
theorem concat_any (A : Option Addr) (c : Nat) (l : List (List UInt8)) (w : World) (hl : RBss S w (.slice A l.length c) l) (hn : l.flatten.length ≤ 140737488355328) :
    Calls Tryd.prog 27 #[.slice A l.length c] w (fun e w' => ∃ A c, e = .returned (.slice A l.flatten.length c) ∧ Fl (fun b => w.heap.size ≤ b) w' 1 (.slice A l.flatten.length c) l.flatten.length (byteVals l.flatten) ∧ Ext w w') := by
  have hll := (RSl.elem hl).2.1
  refine calls_enter (l := [(.slice A l.length c)]) Tryd.func27 rfl rfl rfl (fun aA hF => ?_)
  refine wp_seq_k (fun K1 hK1 => ?_)
  refine wp_region_lit ?_
  refine wpl_op (i := 0) rfl (o_val (v := (.slice none 0 0)) hF rfl rfl rfl rfl (rn_assign rfl) ?_)
  intro a2 hF3; clear hF
  refine wpList_nil ?_
  refine hK1 _ _ ?_
  clear hK1
  refine wp_seq_k (fun K4 hK4 => ?_)
  refine wp_region_lit ?_
  refine wpl_op (i := 0) rfl (o_val (v := (.int .i64 0)) hF3 rfl rfl rfl rfl (rn_assign rfl) ?_)
  intro a5 hF6; clear hF3
  refine wpList_nil ?_
  refine hK4 _ _ ?_
  clear hK4
  refine wp_seq_k (fun K7 hK7 => ?_)
  refine wp_seq_k (fun K8 hK8 => ?_)
  refine wp_region_lit ?_
  refine wpl_op (i := 0) rfl (o_val (v := (.slice A l.length c)) hF6 rfl rfl rfl rfl (rn_move (hF6.get rfl)) ?_)
  intro a9 hF10; clear hF6
  refine wpl_op (i := 1) rfl (o_val (v := (.int .i64 (l.length : Nat))) hF10 rfl rfl rfl rfl (rn_len_slice Tryd.underlying24 (hF10.get rfl)) ?_)
  intro a11 hF12; clear hF10
  refine wpl_op (i := 2) rfl (o_val (v := (.int .i64 0)) hF12 rfl rfl rfl rfl (rn_move rfl) ?_)
  intro a13 hF14; clear hF12
  refine wpList_nil ?_
  refine hK8 _ _ ?_
  clear hK8
  refine wp_block ?_
  refine wp_loop (fun a' W => ∃ (k : Nat), Sl 36 [(0, (.slice A l.length c)), (2, (.slice none 0 0)), (3, (.int .i64 ((l.take k).flatten.length : Nat))), (9, (.slice A l.length c)), (10, (.int .i64 (l.length : Nat))), (11, (.int .i64 (k : Nat)))] a' ∧ k ≤ l.length ∧ (l.take k).flatten.length ≤ l.flatten.length ∧ Ext w W) (fun a' _ => l.length - (intOf (a'.eval (.tmp 11))).toNat) ⟨0, ((((((hF14.nil.cons (q_get hF14 (t := 11) rfl (by first | rfl | (congr 1; omega)))).cons (q_get hF14 (t := 10) rfl rfl)).cons (q_get hF14 (t := 9) rfl rfl)).cons (q_get hF14 (t := 3) rfl (by first | rfl | (congr 1; omega)))).cons (q_get hF14 (t := 2) rfl rfl)).cons (q_get hF14 (t := 0) rfl rfl)), (by omega), (by simp), (Ext.refl w)⟩ ?_
  clear hF14
  rintro a15 w16 ⟨k, hF17, hp19, hp20, hx18⟩
  have hL21 := hF17
  have z22 := hx18.size
  refine wp_seq_k (fun K23 hK23 => ?_)
  refine wp_region_lit ?_
  refine wpl_op (i := 0) rfl (o_val (v := (.bool (decide (((k : Nat) : Int) < ((l.length : Nat) : Int))))) hF17 rfl rfl rfl rfl (rn_lss (hF17.get rfl) (hF17.get rfl)) ?_)
  intro a24 hF25; clear hF17
  refine wpList_nil ?_
  refine hK23 _ _ ?_
  clear hK23
  refine wp_seq_k (fun K26 hK26 => ?_)
  by_cases hc27 : ((k : Nat) : Int) < ((l.length : Nat) : Int)
  · skip
    refine wp_cond_true (c_true hF25 rfl (decide_eq_true hc27)) ?_
    refine wp_skip ?_
    refine hK26 _ _ ?_
    clear hK26
    refine wp_seq_k (fun K28 hK28 => ?_)
    refine wp_block ?_
    refine wp_seq_k (fun K29 hK29 => ?_)
    refine wp_region_lit ?_
    have d43 := (hl.ext hx18)
    obtain ⟨x30, hi31, hm32⟩ := nth_of_lt l k (by omega)
    obtain ⟨b33, o34, A35, c36, hA37, hl38, hc39, hr40, le41, le42⟩ := RBss.get d43 hi31
    have z44 := flat_le hi31
    refine wpl_op (i := 0) rfl (o_val (v := (.pointer (some ⟨b33, o34 + k, none⟩))) hF25 rfl rfl rfl rfl (rn_index1 Tryd.underlying24 (by kernel_rfl : (Tryd.prog.info? 22).map (·.size) = some 1) ((hF25.get rfl).trans (by rw [hA37])) (hF25.get rfl) (by omega : (0 : Int) ≤ (k : Nat)) (by omega : ((k : Nat) : Int) < ((l.length : Nat) : Int))) ?_)
    intro a45 hF46; clear hF25
    refine wpl_op (i := 1) rfl (o_val (v := (.slice A35 x30.length c36)) hF46 rfl rfl rfl rfl (rn_load (isAgg_no Tryd.underlying22 rfl) (hF46.get rfl) (Ext.keep (Ext.refl w16) hc39)) ?_)
    intro a47 hF48; clear hF46
    refine wpl_op (i := 2) rfl (o_val (v := (.slice A35 x30.length c36)) hF48 rfl rfl rfl rfl (rn_assign (hF48.get rfl)) ?_)
    intro a49 hF50; clear hF48
    refine wpList_nil ?_
    refine hK29 _ _ ?_
    clear hK29
    refine wp_seq_k (fun K51 hK51 => ?_)
    refine wp_region_lit ?_
    refine wpl_op (i := 0) rfl (o_val (v := (.int .i64 ((l.take k).flatten.length : Nat))) hF50 rfl rfl rfl rfl (rn_move (hF50.get rfl)) ?_)
    intro a52 hF53; clear hF50
    refine wpl_op (i := 1) rfl (o_val (v := (.slice A35 x30.length c36)) hF53 rfl rfl rfl rfl (rn_move (hF53.get rfl)) ?_)
    intro a54 hF55; clear hF53
    refine wpl_op (i := 2) rfl (o_val (v := (.int .i64 (x30.length : Nat))) hF55 rfl rfl rfl rfl (rn_len_slice Tryd.underlying22 (hF55.get rfl)) ?_)
    intro a56 hF57; clear hF55
    refine wpl_op (i := 3) rfl (o_val (v := (.int .i64 (((l.take k).flatten.length) + x30.length : Nat))) hF57 rfl rfl rfl rfl (rn_addN (a := (l.take k).flatten.length) (b := x30.length) (hF57.get rfl) (hF57.get rfl) (by omega)) ?_)
    intro a58 hF59; clear hF57
    refine wpl_op (i := 4) rfl (o_val (v := (.int .i64 (((l.take k).flatten.length) + x30.length : Nat))) hF59 rfl rfl rfl rfl (rn_assign (hF59.get rfl)) ?_)
    intro a60 hF61; clear hF59
    refine wpList_nil ?_
    refine hK51 _ _ ?_
    clear hK51
    have hF62 := ((((((((hF61.nil.cons (hF61.get (t := 5) (v := (.slice A35 x30.length c36)) rfl)).cons (hF61.get (t := 12) (v := (.bool (decide (((k : Nat) : Int) < ((l.length : Nat) : Int))))) rfl)).cons (hF61.get (t := 11) (v := (.int .i64 (k : Nat))) rfl)).cons (hF61.get (t := 10) (v := (.int .i64 (l.length : Nat))) rfl)).cons (hF61.get (t := 9) (v := (.slice A l.length c)) rfl)).cons (hF61.get (t := 3) (v := (.int .i64 (((l.take k).flatten.length) + x30.length : Nat))) rfl)).cons (hF61.get (t := 2) (v := (.slice none 0 0)) rfl)).cons (hF61.get (t := 0) (v := (.slice A l.length c)) rfl))
    clear hF61
    refine wp_seq_k (fun K63 hK63 => ?_)
    refine wp_region_lit ?_
    refine wpl_op (i := 0) rfl (o_val (v := (.int .i64 (((l.take k).flatten.length) + x30.length : Nat))) hF62 rfl rfl rfl rfl (rn_move (hF62.get rfl)) ?_)
    intro a64 hF65; clear hF62
    refine wpl_op (i := 1) rfl (o_val (v := (.bool (decide (((((l.take k).flatten.length) + x30.length : Nat) : Int) < (0 : Int))))) hF65 rfl rfl rfl rfl (rn_lss (hF65.get rfl) rfl) ?_)
    intro a66 hF67; clear hF65
    refine wpList_nil ?_
    refine hK63 _ _ ?_
    clear hK63
    by_cases hc68 : ((((l.take k).flatten.length) + x30.length : Nat) : Int) < (0 : Int)
    · skip
      refine wp_cond_true (c_true hF67 rfl (decide_eq_true hc68)) ?_
      exfalso; omega
    · skip
      refine wp_cond_false (c_false hF67 rfl (decide_eq_false hc68)) ?_
      refine wp_skip ?_
      refine hK28 _ _ ?_
      clear hK28
      refine wp_region_lit ?_
      refine wpl_op (i := 0) rfl (o_val (v := (.int .i64 (k + 1 : Nat))) hF67 rfl rfl rfl rfl (rn_addN (a := k) (b := 1) (hF67.get rfl) rfl (by omega)) ?_)
      intro a69 hF70; clear hF67
      refine wpl_op (i := 1) rfl (o_val (v := (.int .i64 (k + 1 : Nat))) hF70 rfl rfl rfl rfl (rn_move (hF70.get rfl)) ?_)
      intro a71 hF72; clear hF70
      refine wpList_nil ?_
      refine ⟨⟨(k + 1), ((((((hF72.nil.cons (q_get hF72 (t := 11) rfl (by first | rfl | (congr 1; omega)))).cons (q_get hF72 (t := 10) rfl rfl)).cons (q_get hF72 (t := 9) rfl rfl)).cons (q_get hF72 (t := 3) rfl (by first | rfl | (congr 1; omega)))).cons (q_get hF72 (t := 2) rfl rfl)).cons (q_get hF72 (t := 0) rfl rfl)), (by omega), (by omega), ((Ext.refl w).trans hx18)⟩, ?_⟩
      rw [hF72.get (t := 11) rfl, hL21.get (t := 11) rfl]; simp [intOf]; omega
  · skip
    refine wp_cond_false (c_false hF25 rfl (decide_eq_false hc27)) ?_
    refine wp_exit ?_
    refine exit_then ?_
    refine exit_then ?_
    refine exit_here ?_
    refine hK7 _ _ ?_
    clear hK7
    refine wp_seq_k (fun K73 hK73 => ?_)
    refine wp_region_lit ?_
    refine wpl_op (i := 0) rfl (o_val (v := (.int .i64 ((l.take k).flatten.length : Nat))) hF25 rfl rfl rfl rfl (rn_move (hF25.get rfl)) ?_)
    intro a74 hF75; clear hF25
    refine wpl_op (i := 1) rfl (o_call hF75 rfl rfl rfl rfl (rn_call (args2 rfl (hF75.get rfl)) rfl (by kernel_rfl)) (grow_any (l.take k).flatten.length _ (by omega)) ?_)
    rintro _ w80 ⟨A76, c77, rfl, r78, hx81⟩
    have z79 := own_form0 r78
    refine ⟨_, rfl, ?_⟩; intro a82 hF83; clear hF75; have z84 := hx81.size
    refine wpl_op (i := 2) rfl (o_val (v := (.slice A76 0 c77)) hF83 rfl rfl rfl rfl (rn_assign (hF83.get rfl)) ?_)
    intro a85 hF86; clear hF83
    refine wpList_nil ?_
    refine hK73 _ _ ?_
    clear hK73
    refine wp_seq_k (fun K87 hK87 => ?_)
    refine wp_seq_k (fun K88 hK88 => ?_)
    refine wp_region_lit ?_
    refine wpl_op (i := 0) rfl (o_val (v := (.slice A l.length c)) hF86 rfl rfl rfl rfl (rn_move (hF86.get rfl)) ?_)
    intro a89 hF90; clear hF86
    refine wpl_op (i := 1) rfl (o_val (v := (.int .i64 (l.length : Nat))) hF90 rfl rfl rfl rfl (rn_len_slice Tryd.underlying24 (hF90.get rfl)) ?_)
    intro a91 hF92; clear hF90
    refine wpl_op (i := 2) rfl (o_val (v := (.int .i64 0)) hF92 rfl rfl rfl rfl (rn_move rfl) ?_)
    intro a93 hF94; clear hF92
    refine wpList_nil ?_
    refine hK88 _ _ ?_
    clear hK88
    refine wp_block ?_
    refine wp_loop (fun a' W => ∃ (k2 : Nat) (A6 : Option Addr) (c6 : Nat) (n6 : Nat) (l6 : List UInt8), Sl 36 [(0, (.slice A l.length c)), (2, (.slice none 0 0)), (3, (.int .i64 ((l.take k).flatten.length : Nat))), (9, (.slice A l.length c)), (10, (.int .i64 (l.length : Nat))), (11, (.int .i64 (k : Nat))), (12, (.bool (decide (((k : Nat) : Int) < ((l.length : Nat) : Int))))), (6, (.slice A6 n6 c6)), (25, (.slice A l.length c)), (26, (.int .i64 (l.length : Nat))), (27, (.int .i64 (k2 : Nat)))] a' ∧ k2 ≤ l.length ∧ n6 = (l.take k2).flatten.length ∧ l6 = (l.take k2).flatten ∧ Ext w W ∧ W.ownsRow w16.heap.size 5 1 (.slice A6 n6 c6) n6 (byteVals l6) ∧ w16.heap.size ≤ W.heap.size) (fun a' _ => l.length - (intOf (a'.eval (.tmp 27))).toNat) ⟨0, A76, c77, 0, [], (((((((((((hF94.nil.cons (q_get hF94 (t := 27) rfl (by first | rfl | (congr 1; omega)))).cons (q_get hF94 (t := 26) rfl rfl)).cons (q_get hF94 (t := 25) rfl rfl)).cons (q_get hF94 (t := 6) rfl (by first | rfl | (congr 1; omega)))).cons (q_get hF94 (t := 12) rfl rfl)).cons (q_get hF94 (t := 11) rfl rfl)).cons (q_get hF94 (t := 10) rfl rfl)).cons (q_get hF94 (t := 9) rfl rfl)).cons (q_get hF94 (t := 3) rfl rfl)).cons (q_get hF94 (t := 2) rfl rfl)).cons (q_get hF94 (t := 0) rfl rfl)), (by omega), (by simp), (by simp), (((Ext.refl w).trans hx18).trans hx81), r78, (by omega)⟩ ?_
    clear hF94
    rintro a95 w96 ⟨k2, A6, c6, n6, l6, hF97, hp99, hp100, hp101, hx98, r102, hf103⟩
    have hL104 := hF97
    have z105 := hx98.size
    have z106 := own_form0 r102
    refine wp_seq_k (fun K107 hK107 => ?_)
    refine wp_region_lit ?_
    refine wpl_op (i := 0) rfl (o_val (v := (.bool (decide (((k2 : Nat) : Int) < ((l.length : Nat) : Int))))) hF97 rfl rfl rfl rfl (rn_lss (hF97.get rfl) (hF97.get rfl)) ?_)
    intro a108 hF109; clear hF97
    refine wpList_nil ?_
    refine hK107 _ _ ?_
    clear hK107
    refine wp_seq_k (fun K110 hK110 => ?_)
    by_cases hc111 : ((k2 : Nat) : Int) < ((l.length : Nat) : Int)
    · skip
      refine wp_cond_true (c_true hF109 rfl (decide_eq_true hc111)) ?_
      refine wp_skip ?_
      refine hK110 _ _ ?_
      clear hK110
      refine wp_seq_k (fun K112 hK112 => ?_)
      refine wp_block ?_
      refine wp_seq_k (fun K113 hK113 => ?_)
      refine wp_region_lit ?_
      have d127 := (hl.ext hx98)
      obtain ⟨x114, hi115, hm116⟩ := nth_of_lt l k2 (by omega)
      obtain ⟨b117, o118, A119, c120, hA121, hl122, hc123, hr124, le125, le126⟩ := RBss.get d127 hi115
      have z128 := flat_le hi115
      refine wpl_op (i := 0) rfl (o_val (v := (.pointer (some ⟨b117, o118 + k2, none⟩))) hF109 rfl rfl rfl rfl (rn_index1 Tryd.underlying24 (by kernel_rfl : (Tryd.prog.info? 22).map (·.size) = some 1) ((hF109.get rfl).trans (by rw [hA121])) (hF109.get rfl) (by omega : (0 : Int) ≤ (k2 : Nat)) (by omega : ((k2 : Nat) : Int) < ((l.length : Nat) : Int))) ?_)
      intro a129 hF130; clear hF109
      refine wpl_op (i := 1) rfl (o_val (v := (.slice A119 x114.length c120)) hF130 rfl rfl rfl rfl (rn_load (isAgg_no Tryd.underlying22 rfl) (hF130.get rfl) (Ext.keep (Ext.refl w96) hc123)) ?_)
      intro a131 hF132; clear hF130
      refine wpl_op (i := 2) rfl (o_val (v := (.slice A119 x114.length c120)) hF132 rfl rfl rfl rfl (rn_assign (hF132.get rfl)) ?_)
      intro a133 hF134; clear hF132
      refine wpList_nil ?_
      refine hK113 _ _ ?_
      clear hK113
      refine wp_region_lit ?_
      refine wpl_op (i := 0) rfl (o_val (v := (.slice A6 n6 c6)) hF134 rfl rfl rfl rfl (rn_move (hF134.get rfl)) ?_)
      intro a135 hF136; clear hF134
      refine wpl_op (i := 1) rfl (o_val (v := (.slice A119 x114.length c120)) hF136 rfl rfl rfl rfl (rn_move (hF136.get rfl)) ?_)
      intro a137 hF138; clear hF136
      have hf146 := r102
      refine wpl_op (i := 2) rfl (o_appA (zs := byteVals (l6 ++ x114)) El22 hF138 rfl rfl rfl rfl rfl (hF138.get rfl) (hF138.get rfl) hf146 (Fl.cel (RBs.fl hr124)).2.2 (by omega) (by omega) (by omega) (byteVals_app _ _) ?_)
      intro A139 c140 w141 a147 hF148 r142 hg143 z144 z145; clear hF138; have z149 := hg143.size
      refine wpl_op (i := 3) rfl (o_val (v := (.slice A139 (n6 + x114.length) c140)) hF148 rfl rfl rfl rfl (rn_assign (hF148.get rfl)) ?_)
      intro a150 hF151; clear hF148
      refine wpList_nil ?_
      refine hK112 _ _ ?_
      clear hK112
      have hF152 := (((((((((((((hF151.nil.cons (hF151.get (t := 8) (v := (.slice A119 x114.length c120)) rfl)).cons (hF151.get (t := 28) (v := (.bool (decide (((k2 : Nat) : Int) < ((l.length : Nat) : Int))))) rfl)).cons (hF151.get (t := 27) (v := (.int .i64 (k2 : Nat))) rfl)).cons (hF151.get (t := 26) (v := (.int .i64 (l.length : Nat))) rfl)).cons (hF151.get (t := 25) (v := (.slice A l.length c)) rfl)).cons (hF151.get (t := 6) (v := (.slice A139 (n6 + x114.length) c140)) rfl)).cons (hF151.get (t := 12) (v := (.bool (decide (((k : Nat) : Int) < ((l.length : Nat) : Int))))) rfl)).cons (hF151.get (t := 11) (v := (.int .i64 (k : Nat))) rfl)).cons (hF151.get (t := 10) (v := (.int .i64 (l.length : Nat))) rfl)).cons (hF151.get (t := 9) (v := (.slice A l.length c)) rfl)).cons (hF151.get (t := 3) (v := (.int .i64 ((l.take k).flatten.length : Nat))) rfl)).cons (hF151.get (t := 2) (v := (.slice none 0 0)) rfl)).cons (hF151.get (t := 0) (v := (.slice A l.length c)) rfl))
      clear hF151
      refine wp_region_lit ?_
      refine wpl_op (i := 0) rfl (o_val (v := (.int .i64 (k2 + 1 : Nat))) hF152 rfl rfl rfl rfl (rn_addN (a := k2) (b := 1) (hF152.get rfl) rfl (by omega)) ?_)
      intro a153 hF154; clear hF152
      refine wpl_op (i := 1) rfl (o_val (v := (.int .i64 (k2 + 1 : Nat))) hF154 rfl rfl rfl rfl (rn_move (hF154.get rfl)) ?_)
      intro a155 hF156; clear hF154
      refine wpList_nil ?_
      refine ⟨⟨(k2 + 1), A139, c140, n6 + x114.length, l6 ++ x114, (((((((((((hF156.nil.cons (q_get hF156 (t := 27) rfl (by first | rfl | (congr 1; omega)))).cons (q_get hF156 (t := 26) rfl rfl)).cons (q_get hF156 (t := 25) rfl rfl)).cons (q_get hF156 (t := 6) rfl (by first | rfl | (congr 1; omega)))).cons (q_get hF156 (t := 12) rfl rfl)).cons (q_get hF156 (t := 11) rfl rfl)).cons (q_get hF156 (t := 10) rfl rfl)).cons (q_get hF156 (t := 9) rfl rfl)).cons (q_get hF156 (t := 3) rfl rfl)).cons (q_get hF156 (t := 2) rfl rfl)).cons (q_get hF156 (t := 0) rfl rfl)), (by omega), (by omega), (by rw [flat_step hi115, ← hp101]), (ext_row ((Ext.refl w).trans hx98) hg143 hf146 (by omega)), r142, (by omega)⟩, ?_⟩
      rw [hF156.get (t := 27) rfl, hL104.get (t := 27) rfl]; simp [intOf]; omega
    · skip
      refine wp_cond_false (c_false hF109 rfl (decide_eq_false hc111)) ?_
      refine wp_exit ?_
      refine exit_then ?_
      refine exit_then ?_
      refine exit_here ?_
      refine hK87 _ _ ?_
      clear hK87
      refine wp_seq_k (fun K157 hK157 => ?_)
      refine wp_region_lit ?_
      refine wpl_op (i := 0) rfl (o_val (v := (.slice A6 n6 c6)) hF109 rfl rfl rfl rfl (rn_move (hF109.get rfl)) ?_)
      intro a158 hF159; clear hF109
      refine wpl_op (i := 1) rfl (o_val (v := (.slice A6 n6 c6)) hF159 rfl rfl rfl rfl (rn_assign (hF159.get rfl)) ?_)
      intro a160 hF161; clear hF159
      refine wpList_nil ?_
      refine hK157 _ _ ?_
      clear hK157
      refine wp_ret ?_
      refine ret1 hF161 rfl rfl ?_
      have hk2 : k2 = l.length := by omega
      have hfl : l6 = l.flatten := by rw [hp101, hk2, List.take_length]
      have hn6 : n6 = l.flatten.length := by rw [← hfl]; have := (Fl.own (S := fun _ => True) r102 (fun _ _ => trivial) (byteVals_one _)).len; simp [byteVals] at this; omega
      have hrow := Fl.own (S := fun b => w.heap.size ≤ b) r102 (fun b hb => by omega) (byteVals_one _)
      have hx6 := ((Ext.refl w).trans hx98)
      subst hfl hn6
      exact ⟨A6, c6, rfl, hrow, hx6⟩

theorem concat_at {v : Value} {n : Nat} (l : List (List UInt8)) (w : World) (hl : RBss S w v l) (he : l.flatten.length = n) (hn : n ≤ 140737488355328) :
    Calls Tryd.prog 27 #[v] w (fun e w' => ∃ A c, e = .returned (.slice A n c) ∧ Fl (fun b => w.heap.size ≤ b) w' 1 (.slice A n c) n (byteVals l.flatten) ∧ Ext w w') := by
  subst he
  obtain ⟨A, c, rfl, _⟩ := RSl.form hl
  exact concat_any A c l w hl hn

end Go.Proofs.YtgodliookpgliaaDoor
