/- Contracts of slices.Grow and slices.Concat. -/
import Derived.Test.YtgodliookpgliaaDoorProg
import Derived.Test.YtgodliookpgliaaDoorElA
import Derived.KernelRfl
namespace Go.Proofs.YtgodliookpgliaaDoor
open Go.RowKit

variable {S S' : Nat → Prop}

set_option maxRecDepth 100000 in
set_option maxHeartbeats 1000000 in
theorem grow_any (n : Nat) (w : World) (hn : n ≤ 140737488355328) :
    Calls Tryd.prog 40 #[.slice none 0 0, .int .i64 (n : Nat)] w (fun e w' => ∃ A c, e = .returned (.slice A 0 c) ∧ w'.ownsRow w.heap.size 5 1 (.slice A 0 c) 0 [] ∧ Ext w w') := by
  refine calls_enter (l := [(.slice none 0 0), (.int .i64 (n : Nat))]) Tryd.func40 rfl rfl rfl (fun aA hF => ?_)
  refine wp_seq_k (fun K1 hK1 => ?_)
  refine wp_region_lit ?_
  refine wpl_op (i := 0) rfl (o_val (v := (.slice none 0 0)) hF rfl rfl rfl rfl (rn_assign rfl) ?_)
  intro a2 hF3; clear hF
  refine wpList_nil ?_
  refine hK1 _ _ ?_
  clear hK1
  refine wp_seq_k (fun K4 hK4 => ?_)
  refine wp_seq_k (fun K5 hK5 => ?_)
  refine wp_region_lit ?_
  refine wpl_op (i := 0) rfl (o_val (v := (.int .i64 (n : Nat))) hF3 rfl rfl rfl rfl (rn_move (hF3.get rfl)) ?_)
  intro a6 hF7; clear hF3
  refine wpl_op (i := 1) rfl (o_val (v := (.bool (decide (((n : Nat) : Int) < (0 : Int))))) hF7 rfl rfl rfl rfl (rn_lss (hF7.get rfl) rfl) ?_)
  intro a8 hF9; clear hF7
  refine wpList_nil ?_
  refine hK5 _ _ ?_
  clear hK5
  by_cases hc10 : ((n : Nat) : Int) < (0 : Int)
  · skip
    refine wp_cond_true (c_true hF9 rfl (decide_eq_true hc10)) ?_
    exfalso; omega
  · skip
    refine wp_cond_false (c_false hF9 rfl (decide_eq_false hc10)) ?_
    refine wp_skip ?_
    refine hK4 _ _ ?_
    clear hK4
    refine wp_seq_k (fun K11 hK11 => ?_)
    refine wp_seq_k (fun K12 hK12 => ?_)
    refine wp_region_lit ?_
    refine wpl_op (i := 0) rfl (o_val (v := (.int .i64 (n : Nat))) hF9 rfl rfl rfl rfl (rn_move (hF9.get rfl)) ?_)
    intro a13 hF14; clear hF9
    refine wpl_op (i := 1) rfl (o_val (v := (.slice none 0 0)) hF14 rfl rfl rfl rfl (rn_move (hF14.get rfl)) ?_)
    intro a15 hF16; clear hF14
    refine wpl_op (i := 2) rfl (o_val (v := (.int .i64 0)) hF16 rfl rfl rfl rfl (rn_cap Tryd.underlying22 (hF16.get rfl)) ?_)
    intro a17 hF18; clear hF16
    refine wpl_op (i := 3) rfl (o_val (v := (.slice none 0 0)) hF18 rfl rfl rfl rfl (rn_move (hF18.get rfl)) ?_)
    intro a19 hF20; clear hF18
    refine wpl_op (i := 4) rfl (o_val (v := (.int .i64 0)) hF20 rfl rfl rfl rfl (rn_len_slice Tryd.underlying22 (hF20.get rfl)) ?_)
    intro a21 hF22; clear hF20
    refine wpl_op (i := 5) rfl (o_val (v := (.int .i64 0)) hF22 rfl rfl rfl rfl (rn_sub (hF22.get rfl) (hF22.get rfl) (by omega) (by omega)) ?_)
    intro a23 hF24; clear hF22
    refine wpl_op (i := 6) rfl (o_val (v := (.int .i64 (n : Nat))) hF24 rfl rfl rfl rfl (rn_sub (hF24.get rfl) (hF24.get rfl) (by omega) (by omega)) ?_)
    intro a25 hF26; clear hF24
    refine wpl_op (i := 7) rfl (o_val (v := (.int .i64 (n : Nat))) hF26 rfl rfl rfl rfl (rn_assign (hF26.get rfl)) ?_)
    intro a27 hF28; clear hF26
    refine wpList_nil ?_
    refine hK12 _ _ ?_
    clear hK12
    have hF29 := ((((hF28.nil.cons (hF28.get (t := 6) (v := (.bool (decide (((n : Nat) : Int) < (0 : Int))))) rfl)).cons (hF28.get (t := 4) (v := (.slice none 0 0)) rfl)).cons (hF28.get (t := 1) (v := (.int .i64 (n : Nat))) rfl)).cons (hF28.get (t := 0) (v := (.slice none 0 0)) rfl))
    clear hF28
    refine wp_seq_k (fun K30 hK30 => ?_)
    refine wp_region_lit ?_
    refine wpl_op (i := 0) rfl (o_val (v := (.int .i64 (n : Nat))) hF29 rfl rfl rfl rfl (rn_move (hF29.get rfl)) ?_)
    intro a31 hF32; clear hF29
    refine wpl_op (i := 1) rfl (o_val (v := (.bool (decide ((0 : Int) < ((n : Nat) : Int))))) hF32 rfl rfl rfl rfl (rn_gtr (hF32.get rfl) rfl) ?_)
    intro a33 hF34; clear hF32
    refine wpList_nil ?_
    refine hK30 _ _ ?_
    clear hK30
    by_cases hc35 : (0 : Int) < ((n : Nat) : Int)
    · skip
      refine wp_cond_true (c_true hF34 rfl (decide_eq_true hc35)) ?_
      refine wp_region_lit ?_
      refine wpl_op (i := 0) rfl (o_val (v := (.slice none 0 0)) hF34 rfl rfl rfl rfl (rn_move (hF34.get rfl)) ?_)
      intro a36 hF37; clear hF34
      refine wpl_op (i := 1) rfl (o_val (v := (.slice none 0 0)) hF37 rfl rfl rfl rfl (rn_move (hF37.get rfl)) ?_)
      intro a38 hF39; clear hF37
      refine wpl_op (i := 2) rfl (o_val (v := (.int .i64 0)) hF39 rfl rfl rfl rfl (rn_cap Tryd.underlying22 (hF39.get rfl)) ?_)
      intro a40 hF41; clear hF39
      refine wpl_op (i := 3) rfl (o_val (v := (.slice none 0 0)) hF41 rfl rfl rfl rfl (rn_sliceHi Tryd.underlying22 (by kernel_rfl : (Tryd.prog.info? 5).map (·.size) = some 1) (hF41.get rfl) (hF41.get rfl) (by omega : (0 : Int) ≤ 0) (by omega : (0 : Int) ≤ ((0 : Nat) : Int))) ?_)
      intro a42 hF43; clear hF41
      refine wpl_op (i := 4) rfl (o_val (v := (.int .i64 (n : Nat))) hF43 rfl rfl rfl rfl (rn_move (hF43.get rfl)) ?_)
      intro a44 hF45; clear hF43
      refine wpl_op (i := 5) rfl (o_zeros El22 hF45 rfl rfl rfl rfl rfl Tryd.underlying3 (hF45.get rfl) (hF45.get rfl) (by omega) (by omega) (by omega) ?_)
      intro g46 c47 ys48 w49 a55 hF56 z50 z51 z52 r53 hx54; clear hF45
      have z57 := own_lt r53
      refine wpl_op (i := 6) rfl (o_val (v := (.slice none 0 0)) hF56 rfl rfl rfl rfl (rn_move (hF56.get rfl)) ?_)
      intro a58 hF59; clear hF56
      refine wpl_op (i := 7) rfl (o_val (v := (.int .i64 0)) hF59 rfl rfl rfl rfl (rn_len_slice Tryd.underlying22 (hF59.get rfl)) ?_)
      intro a60 hF61; clear hF59
      refine wpl_op (i := 8) rfl (o_val (v := (.slice (some ⟨g46, 0, none⟩) 0 c47)) hF61 rfl rfl rfl rfl (rn_sliceHi Tryd.underlying22 (by kernel_rfl : (Tryd.prog.info? 5).map (·.size) = some 1) (hF61.get rfl) (hF61.get rfl) (by omega : (0 : Int) ≤ 0) (by omega : (0 : Int) ≤ ((c47 : Nat) : Int))) ?_)
      intro a62 hF63; clear hF61
      refine wpl_op (i := 9) rfl (o_val (v := (.slice (some ⟨g46, 0, none⟩) 0 c47)) hF63 rfl rfl rfl rfl (rn_assign (hF63.get rfl)) ?_)
      intro a64 hF65; clear hF63
      refine wpList_nil ?_
      refine hK11 _ _ ?_
      clear hK11
      have hF66 := (((((hF65.nil.cons (hF65.get (t := 16) (v := (.bool (decide ((0 : Int) < ((n : Nat) : Int))))) rfl)).cons (hF65.get (t := 6) (v := (.bool (decide (((n : Nat) : Int) < (0 : Int))))) rfl)).cons (hF65.get (t := 4) (v := (.slice none 0 0)) rfl)).cons (hF65.get (t := 1) (v := (.int .i64 (n : Nat))) rfl)).cons (hF65.get (t := 0) (v := (.slice (some ⟨g46, 0, none⟩) 0 c47)) rfl))
      clear hF65
      refine wp_seq_k (fun K67 hK67 => ?_)
      refine wp_region_lit ?_
      refine wpl_op (i := 0) rfl (o_val (v := (.slice (some ⟨g46, 0, none⟩) 0 c47)) hF66 rfl rfl rfl rfl (rn_move (hF66.get rfl)) ?_)
      intro a68 hF69; clear hF66
      refine wpl_op (i := 1) rfl (o_val (v := (.slice (some ⟨g46, 0, none⟩) 0 c47)) hF69 rfl rfl rfl rfl (rn_assign (hF69.get rfl)) ?_)
      intro a70 hF71; clear hF69
      refine wpList_nil ?_
      refine hK67 _ _ ?_
      clear hK67
      refine wp_ret ?_
      refine ret1 hF71 rfl rfl ?_
      exact ⟨_, _, rfl, own_zero r53, ((Ext.refl w).trans hx54)⟩
    · skip
      refine wp_cond_false (c_false hF34 rfl (decide_eq_false hc35)) ?_
      refine wp_skip ?_
      refine hK11 _ _ ?_
      clear hK11
      refine wp_seq_k (fun K72 hK72 => ?_)
      refine wp_region_lit ?_
      refine wpl_op (i := 0) rfl (o_val (v := (.slice none 0 0)) hF34 rfl rfl rfl rfl (rn_move (hF34.get rfl)) ?_)
      intro a73 hF74; clear hF34
      refine wpl_op (i := 1) rfl (o_val (v := (.slice none 0 0)) hF74 rfl rfl rfl rfl (rn_assign (hF74.get rfl)) ?_)
      intro a75 hF76; clear hF74
      refine wpList_nil ?_
      refine hK72 _ _ ?_
      clear hK72
      refine wp_ret ?_
      refine ret1 hF76 rfl rfl ?_
      exact ⟨none, 0, rfl, own_nil _ _ _ _, (Ext.refl w)⟩

set_option maxRecDepth 100000 in
set_option maxHeartbeats 1000000 in
theorem concat_any (A : Option Addr) (c : Nat) (l : List (List UInt8)) (w : World) (hl : RBss S w (.slice A l.length c) l) (hn : l.flatten.length ≤ 140737488355328) :
    Calls Tryd.prog 27 #[.slice A l.length c] w (fun e w' => ∃ A c, e = .returned (.slice A l.flatten.length c) ∧ Fl (fun b => w.heap.size ≤ b) w' 1 (.slice A l.flatten.length c) l.flatten.length (byteVals l.flatten) ∧ Ext w w') := by
  have hll := (RSl.elem hl).2.1
  refine calls_enter (l := [(.slice A l.length c)]) Tryd.func27 rfl rfl rfl (fun aA hF => ?_)
  refine wp_seq_k (fun K1 hK1 => ?_)
  refine wp_region_lit ?_
  refine wpl_op (i := 0) rfl (o_val (v := (.slice none 0 0)) hF rfl rfl rfl rfl (rn_assign rfl) ?_)
  intro a2 hF3; clear hF
  refine wpList_nil ?_
  refine hK1 _ _ ?_
  clear hK1
  refine wp_seq_k (fun K4 hK4 => ?_)
  refine wp_region_lit ?_
  refine wpl_op (i := 0) rfl (o_val (v := (.int .i64 0)) hF3 rfl rfl rfl rfl (rn_assign rfl) ?_)
  intro a5 hF6; clear hF3
  refine wpList_nil ?_
  refine hK4 _ _ ?_
  clear hK4
  refine wp_seq_k (fun K7 hK7 => ?_)
  refine wp_seq_k (fun K8 hK8 => ?_)
  refine wp_region_lit ?_
  refine wpl_op (i := 0) rfl (o_val (v := (.slice A l.length c)) hF6 rfl rfl rfl rfl (rn_move (hF6.get rfl)) ?_)
  intro a9 hF10; clear hF6
  refine wpl_op (i := 1) rfl (o_val (v := (.int .i64 (l.length : Nat))) hF10 rfl rfl rfl rfl (rn_len_slice Tryd.underlying24 (hF10.get rfl)) ?_)
  intro a11 hF12; clear hF10
  refine wpl_op (i := 2) rfl (o_val (v := (.int .i64 0)) hF12 rfl rfl rfl rfl (rn_move rfl) ?_)
  intro a13 hF14; clear hF12
  refine wpList_nil ?_
  refine hK8 _ _ ?_
  clear hK8
  refine wp_block ?_
  refine wp_loop (fun a' W => ∃ (k : Nat), Sl 36 [(0, (.slice A l.length c)), (2, (.slice none 0 0)), (3, (.int .i64 ((l.take k).flatten.length : Nat))), (9, (.slice A l.length c)), (10, (.int .i64 (l.length : Nat))), (11, (.int .i64 (k : Nat)))] a' ∧ k ≤ l.length ∧ (l.take k).flatten.length ≤ l.flatten.length ∧ Ext w W ∧ w.heap.size ≤ W.heap.size) (fun a' _ => l.length - (intOf (a'.eval (.tmp 11))).toNat) ⟨0, ((((((hF14.nil.cons (q_get hF14 (t := 11) rfl (by first | rfl | (congr 1; omega)))).cons (q_get hF14 (t := 10) rfl rfl)).cons (q_get hF14 (t := 9) rfl rfl)).cons (q_get hF14 (t := 3) rfl (by first | rfl | (congr 1; omega)))).cons (q_get hF14 (t := 2) rfl rfl)).cons (q_get hF14 (t := 0) rfl rfl)), (by omega), (by simp), (Ext.refl w), (Nat.le_refl _)⟩ ?_
  clear hF14
  rintro a15 w16 ⟨k, hF17, hp19, hp20, hx18, hf21⟩
  have hL22 := hF17
  have z23 := hx18.size
  refine wp_seq_k (fun K24 hK24 => ?_)
  refine wp_region_lit ?_
  refine wpl_op (i := 0) rfl (o_val (v := (.bool (decide (((k : Nat) : Int) < ((l.length : Nat) : Int))))) hF17 rfl rfl rfl rfl (rn_lss (hF17.get rfl) (hF17.get rfl)) ?_)
  intro a25 hF26; clear hF17
  refine wpList_nil ?_
  refine hK24 _ _ ?_
  clear hK24
  refine wp_seq_k (fun K27 hK27 => ?_)
  by_cases hc28 : ((k : Nat) : Int) < ((l.length : Nat) : Int)
  · skip
    refine wp_cond_true (c_true hF26 rfl (decide_eq_true hc28)) ?_
    refine wp_skip ?_
    refine hK27 _ _ ?_
    clear hK27
    refine wp_seq_k (fun K29 hK29 => ?_)
    refine wp_block ?_
    refine wp_seq_k (fun K30 hK30 => ?_)
    refine wp_region_lit ?_
    have d44 := (hl.ext hx18)
    obtain ⟨x31, hi32, hm33⟩ := nth_of_lt l k (by omega)
    obtain ⟨b34, o35, A36, c37, hA38, hl39, hc40, hr41, le42, le43⟩ := RBss.get d44 hi32
    have z45 := flat_le hi32
    refine wpl_op (i := 0) rfl (o_val (v := (.pointer (some ⟨b34, o35 + k, none⟩))) hF26 rfl rfl rfl rfl (rn_index1 Tryd.underlying24 (by kernel_rfl : (Tryd.prog.info? 22).map (·.size) = some 1) ((hF26.get rfl).trans (by rw [hA38])) (hF26.get rfl) (by omega : (0 : Int) ≤ (k : Nat)) (by omega : ((k : Nat) : Int) < ((l.length : Nat) : Int))) ?_)
    intro a46 hF47; clear hF26
    refine wpl_op (i := 1) rfl (o_val (v := (.slice A36 x31.length c37)) hF47 rfl rfl rfl rfl (rn_load (isAgg_no Tryd.underlying22 rfl) (hF47.get rfl) (Ext.keep (Ext.refl w16) hc40)) ?_)
    intro a48 hF49; clear hF47
    refine wpl_op (i := 2) rfl (o_val (v := (.slice A36 x31.length c37)) hF49 rfl rfl rfl rfl (rn_assign (hF49.get rfl)) ?_)
    intro a50 hF51; clear hF49
    refine wpList_nil ?_
    refine hK30 _ _ ?_
    clear hK30
    refine wp_seq_k (fun K52 hK52 => ?_)
    refine wp_region_lit ?_
    refine wpl_op (i := 0) rfl (o_val (v := (.int .i64 ((l.take k).flatten.length : Nat))) hF51 rfl rfl rfl rfl (rn_move (hF51.get rfl)) ?_)
    intro a53 hF54; clear hF51
    refine wpl_op (i := 1) rfl (o_val (v := (.slice A36 x31.length c37)) hF54 rfl rfl rfl rfl (rn_move (hF54.get rfl)) ?_)
    intro a55 hF56; clear hF54
    refine wpl_op (i := 2) rfl (o_val (v := (.int .i64 (x31.length : Nat))) hF56 rfl rfl rfl rfl (rn_len_slice Tryd.underlying22 (hF56.get rfl)) ?_)
    intro a57 hF58; clear hF56
    refine wpl_op (i := 3) rfl (o_val (v := (.int .i64 (((l.take k).flatten.length) + x31.length : Nat))) hF58 rfl rfl rfl rfl (rn_addN (a := (l.take k).flatten.length) (b := x31.length) (hF58.get rfl) (hF58.get rfl) (by omega)) ?_)
    intro a59 hF60; clear hF58
    refine wpl_op (i := 4) rfl (o_val (v := (.int .i64 (((l.take k).flatten.length) + x31.length : Nat))) hF60 rfl rfl rfl rfl (rn_assign (hF60.get rfl)) ?_)
    intro a61 hF62; clear hF60
    refine wpList_nil ?_
    refine hK52 _ _ ?_
    clear hK52
    have hF63 := ((((((((hF62.nil.cons (hF62.get (t := 5) (v := (.slice A36 x31.length c37)) rfl)).cons (hF62.get (t := 12) (v := (.bool (decide (((k : Nat) : Int) < ((l.length : Nat) : Int))))) rfl)).cons (hF62.get (t := 11) (v := (.int .i64 (k : Nat))) rfl)).cons (hF62.get (t := 10) (v := (.int .i64 (l.length : Nat))) rfl)).cons (hF62.get (t := 9) (v := (.slice A l.length c)) rfl)).cons (hF62.get (t := 3) (v := (.int .i64 (((l.take k).flatten.length) + x31.length : Nat))) rfl)).cons (hF62.get (t := 2) (v := (.slice none 0 0)) rfl)).cons (hF62.get (t := 0) (v := (.slice A l.length c)) rfl))
    clear hF62
    refine wp_seq_k (fun K64 hK64 => ?_)
    refine wp_region_lit ?_
    refine wpl_op (i := 0) rfl (o_val (v := (.int .i64 (((l.take k).flatten.length) + x31.length : Nat))) hF63 rfl rfl rfl rfl (rn_move (hF63.get rfl)) ?_)
    intro a65 hF66; clear hF63
    refine wpl_op (i := 1) rfl (o_val (v := (.bool (decide (((((l.take k).flatten.length) + x31.length : Nat) : Int) < (0 : Int))))) hF66 rfl rfl rfl rfl (rn_lss (hF66.get rfl) rfl) ?_)
    intro a67 hF68; clear hF66
    refine wpList_nil ?_
    refine hK64 _ _ ?_
    clear hK64
    by_cases hc69 : ((((l.take k).flatten.length) + x31.length : Nat) : Int) < (0 : Int)
    · skip
      refine wp_cond_true (c_true hF68 rfl (decide_eq_true hc69)) ?_
      exfalso; omega
    · skip
      refine wp_cond_false (c_false hF68 rfl (decide_eq_false hc69)) ?_
      refine wp_skip ?_
      refine hK29 _ _ ?_
      clear hK29
      refine wp_region_lit ?_
      refine wpl_op (i := 0) rfl (o_val (v := (.int .i64 (k + 1 : Nat))) hF68 rfl rfl rfl rfl (rn_addN (a := k) (b := 1) (hF68.get rfl) rfl (by omega)) ?_)
      intro a70 hF71; clear hF68
      refine wpl_op (i := 1) rfl (o_val (v := (.int .i64 (k + 1 : Nat))) hF71 rfl rfl rfl rfl (rn_move (hF71.get rfl)) ?_)
      intro a72 hF73; clear hF71
      refine wpList_nil ?_
      refine ⟨⟨(k + 1), ((((((hF73.nil.cons (q_get hF73 (t := 11) rfl (by first | rfl | (congr 1; omega)))).cons (q_get hF73 (t := 10) rfl rfl)).cons (q_get hF73 (t := 9) rfl rfl)).cons (q_get hF73 (t := 3) rfl (by first | rfl | (congr 1; omega)))).cons (q_get hF73 (t := 2) rfl rfl)).cons (q_get hF73 (t := 0) rfl rfl)), (by omega), (by omega), ((Ext.refl w).trans hx18), (by omega)⟩, ?_⟩
      rw [hF73.get (t := 11) rfl, hL22.get (t := 11) rfl]; simp [intOf] <;> omega
  · skip
    refine wp_cond_false (c_false hF26 rfl (decide_eq_false hc28)) ?_
    refine wp_exit ?_
    refine exit_then ?_
    refine exit_then ?_
    refine exit_here ?_
    refine hK7 _ _ ?_
    clear hK7
    refine wp_seq_k (fun K74 hK74 => ?_)
    refine wp_region_lit ?_
    refine wpl_op (i := 0) rfl (o_val (v := (.int .i64 ((l.take k).flatten.length : Nat))) hF26 rfl rfl rfl rfl (rn_move (hF26.get rfl)) ?_)
    intro a75 hF76; clear hF26
    refine wpl_op (i := 1) rfl (o_call hF76 rfl rfl rfl rfl (rn_call (args2 rfl (hF76.get rfl)) rfl (by kernel_rfl)) (grow_any (l.take k).flatten.length _ (by omega)) ?_)
    rintro _ w81 ⟨A77, c78, rfl, r79, hx82⟩
    have z80 := own_form0 r79
    refine ⟨_, rfl, ?_⟩; intro a83 hF84; clear hF76; have z85 := hx82.size
    refine wpl_op (i := 2) rfl (o_val (v := (.slice A77 0 c78)) hF84 rfl rfl rfl rfl (rn_assign (hF84.get rfl)) ?_)
    intro a86 hF87; clear hF84
    refine wpList_nil ?_
    refine hK74 _ _ ?_
    clear hK74
    refine wp_seq_k (fun K88 hK88 => ?_)
    refine wp_seq_k (fun K89 hK89 => ?_)
    refine wp_region_lit ?_
    refine wpl_op (i := 0) rfl (o_val (v := (.slice A l.length c)) hF87 rfl rfl rfl rfl (rn_move (hF87.get rfl)) ?_)
    intro a90 hF91; clear hF87
    refine wpl_op (i := 1) rfl (o_val (v := (.int .i64 (l.length : Nat))) hF91 rfl rfl rfl rfl (rn_len_slice Tryd.underlying24 (hF91.get rfl)) ?_)
    intro a92 hF93; clear hF91
    refine wpl_op (i := 2) rfl (o_val (v := (.int .i64 0)) hF93 rfl rfl rfl rfl (rn_move rfl) ?_)
    intro a94 hF95; clear hF93
    refine wpList_nil ?_
    refine hK89 _ _ ?_
    clear hK89
    refine wp_block ?_
    refine wp_loop (fun a' W => ∃ (k2 : Nat) (A6 : Option Addr) (c6 : Nat) (n6 : Nat) (l6 : List UInt8), Sl 36 [(0, (.slice A l.length c)), (2, (.slice none 0 0)), (3, (.int .i64 ((l.take k).flatten.length : Nat))), (9, (.slice A l.length c)), (10, (.int .i64 (l.length : Nat))), (11, (.int .i64 (k : Nat))), (12, (.bool (decide (((k : Nat) : Int) < ((l.length : Nat) : Int))))), (6, (.slice A6 n6 c6)), (25, (.slice A l.length c)), (26, (.int .i64 (l.length : Nat))), (27, (.int .i64 (k2 : Nat)))] a' ∧ k2 ≤ l.length ∧ n6 = (l.take k2).flatten.length ∧ l6 = (l.take k2).flatten ∧ Ext w W ∧ W.ownsRow w16.heap.size 5 1 (.slice A6 n6 c6) n6 (byteVals l6) ∧ w16.heap.size ≤ W.heap.size ∧ w81.heap.size ≤ W.heap.size) (fun a' _ => l.length - (intOf (a'.eval (.tmp 27))).toNat) ⟨0, A77, c78, 0, [], (((((((((((hF95.nil.cons (q_get hF95 (t := 27) rfl (by first | rfl | (congr 1; omega)))).cons (q_get hF95 (t := 26) rfl rfl)).cons (q_get hF95 (t := 25) rfl rfl)).cons (q_get hF95 (t := 6) rfl (by first | rfl | (congr 1; omega)))).cons (q_get hF95 (t := 12) rfl rfl)).cons (q_get hF95 (t := 11) rfl rfl)).cons (q_get hF95 (t := 10) rfl rfl)).cons (q_get hF95 (t := 9) rfl rfl)).cons (q_get hF95 (t := 3) rfl rfl)).cons (q_get hF95 (t := 2) rfl rfl)).cons (q_get hF95 (t := 0) rfl rfl)), (by omega), (by simp), (by simp), (((Ext.refl w).trans hx18).trans hx82), r79, (by omega), (Nat.le_refl _)⟩ ?_
    clear hF95
    rintro a96 w97 ⟨k2, A6, c6, n6, l6, hF98, hp100, hp101, hp102, hx99, r103, hf104, hf105⟩
    have hL106 := hF98
    have z107 := hx99.size
    have z108 := own_form0 r103
    refine wp_seq_k (fun K109 hK109 => ?_)
    refine wp_region_lit ?_
    refine wpl_op (i := 0) rfl (o_val (v := (.bool (decide (((k2 : Nat) : Int) < ((l.length : Nat) : Int))))) hF98 rfl rfl rfl rfl (rn_lss (hF98.get rfl) (hF98.get rfl)) ?_)
    intro a110 hF111; clear hF98
    refine wpList_nil ?_
    refine hK109 _ _ ?_
    clear hK109
    refine wp_seq_k (fun K112 hK112 => ?_)
    by_cases hc113 : ((k2 : Nat) : Int) < ((l.length : Nat) : Int)
    · skip
      refine wp_cond_true (c_true hF111 rfl (decide_eq_true hc113)) ?_
      refine wp_skip ?_
      refine hK112 _ _ ?_
      clear hK112
      refine wp_seq_k (fun K114 hK114 => ?_)
      refine wp_block ?_
      refine wp_seq_k (fun K115 hK115 => ?_)
      refine wp_region_lit ?_
      have d129 := (hl.ext hx99)
      obtain ⟨x116, hi117, hm118⟩ := nth_of_lt l k2 (by omega)
      obtain ⟨b119, o120, A121, c122, hA123, hl124, hc125, hr126, le127, le128⟩ := RBss.get d129 hi117
      have z130 := flat_le hi117
      refine wpl_op (i := 0) rfl (o_val (v := (.pointer (some ⟨b119, o120 + k2, none⟩))) hF111 rfl rfl rfl rfl (rn_index1 Tryd.underlying24 (by kernel_rfl : (Tryd.prog.info? 22).map (·.size) = some 1) ((hF111.get rfl).trans (by rw [hA123])) (hF111.get rfl) (by omega : (0 : Int) ≤ (k2 : Nat)) (by omega : ((k2 : Nat) : Int) < ((l.length : Nat) : Int))) ?_)
      intro a131 hF132; clear hF111
      refine wpl_op (i := 1) rfl (o_val (v := (.slice A121 x116.length c122)) hF132 rfl rfl rfl rfl (rn_load (isAgg_no Tryd.underlying22 rfl) (hF132.get rfl) (Ext.keep (Ext.refl w97) hc125)) ?_)
      intro a133 hF134; clear hF132
      refine wpl_op (i := 2) rfl (o_val (v := (.slice A121 x116.length c122)) hF134 rfl rfl rfl rfl (rn_assign (hF134.get rfl)) ?_)
      intro a135 hF136; clear hF134
      refine wpList_nil ?_
      refine hK115 _ _ ?_
      clear hK115
      refine wp_region_lit ?_
      refine wpl_op (i := 0) rfl (o_val (v := (.slice A6 n6 c6)) hF136 rfl rfl rfl rfl (rn_move (hF136.get rfl)) ?_)
      intro a137 hF138; clear hF136
      refine wpl_op (i := 1) rfl (o_val (v := (.slice A121 x116.length c122)) hF138 rfl rfl rfl rfl (rn_move (hF138.get rfl)) ?_)
      intro a139 hF140; clear hF138
      have hf148 := r103
      refine wpl_op (i := 2) rfl (o_appA (zs := byteVals (l6 ++ x116)) El22 hF140 rfl rfl rfl rfl rfl (hF140.get rfl) (hF140.get rfl) hf148 (Fl.cel (RBs.fl hr126)).2.2 (by omega) (by omega) (by omega) (byteVals_app _ _) ?_)
      intro A141 c142 w143 a149 hF150 r144 hg145 z146 z147; clear hF140; have z151 := hg145.size
      refine wpl_op (i := 3) rfl (o_val (v := (.slice A141 (n6 + x116.length) c142)) hF150 rfl rfl rfl rfl (rn_assign (hF150.get rfl)) ?_)
      intro a152 hF153; clear hF150
      refine wpList_nil ?_
      refine hK114 _ _ ?_
      clear hK114
      have hF154 := (((((((((((((hF153.nil.cons (hF153.get (t := 8) (v := (.slice A121 x116.length c122)) rfl)).cons (hF153.get (t := 28) (v := (.bool (decide (((k2 : Nat) : Int) < ((l.length : Nat) : Int))))) rfl)).cons (hF153.get (t := 27) (v := (.int .i64 (k2 : Nat))) rfl)).cons (hF153.get (t := 26) (v := (.int .i64 (l.length : Nat))) rfl)).cons (hF153.get (t := 25) (v := (.slice A l.length c)) rfl)).cons (hF153.get (t := 6) (v := (.slice A141 (n6 + x116.length) c142)) rfl)).cons (hF153.get (t := 12) (v := (.bool (decide (((k : Nat) : Int) < ((l.length : Nat) : Int))))) rfl)).cons (hF153.get (t := 11) (v := (.int .i64 (k : Nat))) rfl)).cons (hF153.get (t := 10) (v := (.int .i64 (l.length : Nat))) rfl)).cons (hF153.get (t := 9) (v := (.slice A l.length c)) rfl)).cons (hF153.get (t := 3) (v := (.int .i64 ((l.take k).flatten.length : Nat))) rfl)).cons (hF153.get (t := 2) (v := (.slice none 0 0)) rfl)).cons (hF153.get (t := 0) (v := (.slice A l.length c)) rfl))
      clear hF153
      refine wp_region_lit ?_
      refine wpl_op (i := 0) rfl (o_val (v := (.int .i64 (k2 + 1 : Nat))) hF154 rfl rfl rfl rfl (rn_addN (a := k2) (b := 1) (hF154.get rfl) rfl (by omega)) ?_)
      intro a155 hF156; clear hF154
      refine wpl_op (i := 1) rfl (o_val (v := (.int .i64 (k2 + 1 : Nat))) hF156 rfl rfl rfl rfl (rn_move (hF156.get rfl)) ?_)
      intro a157 hF158; clear hF156
      refine wpList_nil ?_
      refine ⟨⟨(k2 + 1), A141, c142, n6 + x116.length, l6 ++ x116, (((((((((((hF158.nil.cons (q_get hF158 (t := 27) rfl (by first | rfl | (congr 1; omega)))).cons (q_get hF158 (t := 26) rfl rfl)).cons (q_get hF158 (t := 25) rfl rfl)).cons (q_get hF158 (t := 6) rfl (by first | rfl | (congr 1; omega)))).cons (q_get hF158 (t := 12) rfl rfl)).cons (q_get hF158 (t := 11) rfl rfl)).cons (q_get hF158 (t := 10) rfl rfl)).cons (q_get hF158 (t := 9) rfl rfl)).cons (q_get hF158 (t := 3) rfl rfl)).cons (q_get hF158 (t := 2) rfl rfl)).cons (q_get hF158 (t := 0) rfl rfl)), (by omega), (by omega), (by rw [flat_step hi117, ← hp102]), (ext_row ((Ext.refl w).trans hx99) hg145 hf148 (by omega)), r144, (by omega), (by omega)⟩, ?_⟩
      rw [hF158.get (t := 27) rfl, hL106.get (t := 27) rfl]; simp [intOf] <;> omega
    · skip
      refine wp_cond_false (c_false hF111 rfl (decide_eq_false hc113)) ?_
      refine wp_exit ?_
      refine exit_then ?_
      refine exit_then ?_
      refine exit_here ?_
      refine hK88 _ _ ?_
      clear hK88
      refine wp_seq_k (fun K159 hK159 => ?_)
      refine wp_region_lit ?_
      refine wpl_op (i := 0) rfl (o_val (v := (.slice A6 n6 c6)) hF111 rfl rfl rfl rfl (rn_move (hF111.get rfl)) ?_)
      intro a160 hF161; clear hF111
      refine wpl_op (i := 1) rfl (o_val (v := (.slice A6 n6 c6)) hF161 rfl rfl rfl rfl (rn_assign (hF161.get rfl)) ?_)
      intro a162 hF163; clear hF161
      refine wpList_nil ?_
      refine hK159 _ _ ?_
      clear hK159
      refine wp_ret ?_
      refine ret1 hF163 rfl rfl ?_
      have hk2 : k2 = l.length := by omega
      have hfl : l6 = l.flatten := by rw [hp102, hk2, List.take_length]
      have hn6 : n6 = l.flatten.length := by rw [← hfl]; have := (Fl.own (S := fun _ => True) r103 (fun _ _ => trivial) (byteVals_one _)).len; simp [byteVals] at this; omega
      have hrow := Fl.own (S := fun b => w.heap.size ≤ b) r103 (fun b hb => by omega) (byteVals_one _)
      have hx6 := ((Ext.refl w).trans hx99)
      subst hfl hn6
      exact ⟨A6, c6, rfl, hrow, hx6⟩

theorem concat_at {v : Value} {n : Nat} (l : List (List UInt8)) (w : World) (hl : RBss S w v l) (he : l.flatten.length = n) (hn : n ≤ 140737488355328) :
    Calls Tryd.prog 27 #[v] w (fun e w' => ∃ A c, e = .returned (.slice A n c) ∧ Fl (fun b => w.heap.size ≤ b) w' 1 (.slice A n c) n (byteVals l.flatten) ∧ Ext w w') := by
  subst he
  obtain ⟨A, c, rfl, _⟩ := RSl.form hl
  exact concat_any A c l w hl hn

end Go.Proofs.YtgodliookpgliaaDoor
