/- Several texts in one: DigF, Tree, DigG, DigH, DigI, DigJ, DigK. -/
import Derived.Test.YtmjgjopbeokajaaDoorProg
import Derived.Test.YtmjgjopbeokajaaDoorBunC
import Derived.KernelRfl
import Derived.Test.YtmjgjopbeokajaaDoorBunA
import Derived.Test.YtmjgjopbeokajaaDoorBunB
import Derived.Test.YtmjgjopbeokajaaDoorShelf
import Derived.Lib.ItoaNum
namespace Go.Proofs.YtmjgjopbeokajaaDoor
open Go.RowKit

variable {S S' : Nat → Prop}

set_option maxRecDepth 100000 in
set_option maxHeartbeats 1000000 in
theorem grow_any (n : Nat) (w : World) (hn : n ≤ 140737488355328) :
    Calls Tryd.prog 65 #[.slice none 0 0, .int .i64 (n : Nat)] w (fun e w' => ∃ A c, e = .returned (.slice A 0 c) ∧ w'.ownsRow w.heap.size 5 1 (.slice A 0 c) 0 [] ∧ Ext w w') := by
  refine calls_enter (l := [(.slice none 0 0), (.int .i64 (n : Nat))]) Tryd.func65 rfl rfl rfl (fun aA hF => ?_)
  refine wp_seq_k (fun K1 hK1 => ?_)
  refine wp_region_lit ?_
  refine qv 0 (.slice none 0 0) hF rfl (rn_assign rfl) fun _ F3 => ?_; clear hF
  refine wpList_nil ?_
  refine hK1 _ _ ?_
  clear hK1
  refine wp_seq_k (fun K4 hK4 => ?_)
  refine wp_seq_k (fun K5 hK5 => ?_)
  refine wp_region_lit ?_
  refine qv 0 (.int .i64 (n : Nat)) F3 rfl (rn_move (F3.get rfl)) fun _ F7 => ?_; clear F3
  refine qv 1 (.bool (decide (((n : Nat) : Int) < (0 : Int)))) F7 rfl (rn_lss (F7.get rfl) rfl) fun _ F9 => ?_; clear F7
  refine wpList_nil ?_
  refine hK5 _ _ ?_
  clear hK5
  by_cases hc10 : ((n : Nat) : Int) < (0 : Int)
  · skip
    refine wp_cond_true (c_true F9 rfl (decide_eq_true hc10)) ?_
    exfalso; omega
  · skip
    refine wp_cond_false (c_false F9 rfl (decide_eq_false hc10)) ?_
    refine wp_skip ?_
    refine hK4 _ _ ?_
    clear hK4
    refine wp_seq_k (fun K11 hK11 => ?_)
    refine wp_seq_k (fun K12 hK12 => ?_)
    refine wp_region_lit ?_
    refine qv 0 (.int .i64 (n : Nat)) F9 rfl (rn_move (F9.get rfl)) fun _ F14 => ?_; clear F9
    refine qv 1 (.slice none 0 0) F14 rfl (rn_move (F14.get rfl)) fun _ F16 => ?_; clear F14
    refine qv 2 (.int .i64 0) F16 rfl (rn_cap Tryd.underlying22 (F16.get rfl)) fun _ F18 => ?_; clear F16
    refine qv 3 (.slice none 0 0) F18 rfl (rn_move (F18.get rfl)) fun _ F20 => ?_; clear F18
    refine qv 4 (.int .i64 0) F20 rfl (rn_len_slice Tryd.underlying22 (F20.get rfl)) fun _ F22 => ?_; clear F20
    refine qv 5 (.int .i64 0) F22 rfl (rn_sub (F22.get rfl) (F22.get rfl) (by omega) (by omega)) fun _ F24 => ?_; clear F22
    refine qv 6 (.int .i64 (n : Nat)) F24 rfl (rn_sub (F24.get rfl) (F24.get rfl) (by omega) (by omega)) fun _ F26 => ?_; clear F24
    refine qv 7 (.int .i64 (n : Nat)) F26 rfl (rn_assign (F26.get rfl)) fun _ F28 => ?_; clear F26
    refine wpList_nil ?_
    refine hK12 _ _ ?_
    clear hK12
    have F29 := ((((F28.nil.c F28 6 rfl).c F28 4 rfl).c F28 1 rfl).c F28 0 rfl)
    clear F28
    refine wp_seq_k (fun K30 hK30 => ?_)
    refine wp_region_lit ?_
    refine qv 0 (.int .i64 (n : Nat)) F29 rfl (rn_move (F29.get rfl)) fun _ F32 => ?_; clear F29
    refine qv 1 (.bool (decide ((0 : Int) < ((n : Nat) : Int)))) F32 rfl (rn_gtr (F32.get rfl) rfl) fun _ F34 => ?_; clear F32
    refine wpList_nil ?_
    refine hK30 _ _ ?_
    clear hK30
    by_cases hc35 : (0 : Int) < ((n : Nat) : Int)
    · skip
      refine wp_cond_true (c_true F34 rfl (decide_eq_true hc35)) ?_
      refine wp_region_lit ?_
      refine qv 0 (.slice none 0 0) F34 rfl (rn_move (F34.get rfl)) fun _ F37 => ?_; clear F34
      refine qv 1 (.slice none 0 0) F37 rfl (rn_move (F37.get rfl)) fun _ F39 => ?_; clear F37
      refine qv 2 (.int .i64 0) F39 rfl (rn_cap Tryd.underlying22 (F39.get rfl)) fun _ F41 => ?_; clear F39
      refine qv 3 (.slice none 0 0) F41 rfl (rn_sliceHi Tryd.underlying22 inf5 (F41.get rfl) (F41.get rfl) (by omega : (0 : Int) ≤ 0) (by omega : (0 : Int) ≤ ((0 : Nat) : Int))) fun _ F43 => ?_; clear F41
      refine qv 4 (.int .i64 (n : Nat)) F43 rfl (rn_move (F43.get rfl)) fun _ F45 => ?_; clear F43
      refine wpl_op (i := 5) rfl (o_zeros El22 F45 rfl rfl rfl rfl rfl Tryd.underlying3 (F45.get rfl) (F45.get rfl) (by omega) (by omega) (by omega) ?_)
      intro g46 c47 ys48 w49 a55 F56 z50 z51 z52 r53 hx54; clear F45
      have z57 := own_lt r53
      refine qv 6 (.slice none 0 0) F56 rfl (rn_move (F56.get rfl)) fun _ F59 => ?_; clear F56
      refine qv 7 (.int .i64 0) F59 rfl (rn_len_slice Tryd.underlying22 (F59.get rfl)) fun _ F61 => ?_; clear F59
      refine qv 8 (.slice (some ⟨g46, 0, none⟩) 0 c47) F61 rfl (rn_sliceHi Tryd.underlying22 inf5 (F61.get rfl) (F61.get rfl) (by omega : (0 : Int) ≤ 0) (by omega : (0 : Int) ≤ ((c47 : Nat) : Int))) fun _ F63 => ?_; clear F61
      refine qv 9 (.slice (some ⟨g46, 0, none⟩) 0 c47) F63 rfl (rn_assign (F63.get rfl)) fun _ F65 => ?_; clear F63
      refine wpList_nil ?_
      refine hK11 _ _ ?_
      clear hK11
      have F66 := (((((F65.nil.c F65 16 rfl).c F65 6 rfl).c F65 4 rfl).c F65 1 rfl).c F65 0 rfl)
      clear F65
      refine wp_seq_k (fun K67 hK67 => ?_)
      refine wp_region_lit ?_
      refine qv 0 (.slice (some ⟨g46, 0, none⟩) 0 c47) F66 rfl (rn_move (F66.get rfl)) fun _ F69 => ?_; clear F66
      refine qv 1 (.slice (some ⟨g46, 0, none⟩) 0 c47) F69 rfl (rn_assign (F69.get rfl)) fun _ F71 => ?_; clear F69
      refine wpList_nil ?_
      refine hK67 _ _ ?_
      clear hK67
      refine wp_ret ?_
      refine ret1 F71 rfl rfl ?_
      exact ⟨_, _, rfl, own_zero r53, ((Ext.refl w).trans hx54)⟩
    · skip
      refine wp_cond_false (c_false F34 rfl (decide_eq_false hc35)) ?_
      refine wp_skip ?_
      refine hK11 _ _ ?_
      clear hK11
      refine wp_seq_k (fun K72 hK72 => ?_)
      refine wp_region_lit ?_
      refine qv 0 (.slice none 0 0) F34 rfl (rn_move (F34.get rfl)) fun _ F74 => ?_; clear F34
      refine qv 1 (.slice none 0 0) F74 rfl (rn_assign (F74.get rfl)) fun _ F76 => ?_; clear F74
      refine wpList_nil ?_
      refine hK72 _ _ ?_
      clear hK72
      refine wp_ret ?_
      refine ret1 F76 rfl rfl ?_
      exact ⟨none, 0, rfl, own_nil _ _ _ _, (Ext.refl w)⟩

set_option maxRecDepth 100000 in
set_option maxHeartbeats 1000000 in
theorem concat_any (A : Option Addr) (c : Nat) (l : List (List UInt8)) (w : World) (hl : RBss S w (.slice A l.length c) l) (hn : l.flatten.length ≤ 140737488355328) :
    Calls Tryd.prog 52 #[.slice A l.length c] w (fun e w' => ∃ A c, e = .returned (.slice A l.flatten.length c) ∧ Fl (fun b => w.heap.size ≤ b) w' 1 (.slice A l.flatten.length c) l.flatten.length (byteVals l.flatten) ∧ Ext w w') := by
  have hll := (RSl.elem hl).2.1
  refine calls_enter (l := [(.slice A l.length c)]) Tryd.func52 rfl rfl rfl (fun aA hF => ?_)
  refine wp_seq_k (fun K1 hK1 => ?_)
  refine wp_region_lit ?_
  refine qv 0 (.slice none 0 0) hF rfl (rn_assign rfl) fun _ F3 => ?_; clear hF
  refine wpList_nil ?_
  refine hK1 _ _ ?_
  clear hK1
  refine wp_seq_k (fun K4 hK4 => ?_)
  refine wp_region_lit ?_
  refine qv 0 (.int .i64 0) F3 rfl (rn_assign rfl) fun _ F6 => ?_; clear F3
  refine wpList_nil ?_
  refine hK4 _ _ ?_
  clear hK4
  refine wp_seq_k (fun K7 hK7 => ?_)
  refine wp_seq_k (fun K8 hK8 => ?_)
  refine wp_region_lit ?_
  refine qv 0 (.slice A l.length c) F6 rfl (rn_move (F6.get rfl)) fun _ F10 => ?_; clear F6
  refine qv 1 (.int .i64 (l.length : Nat)) F10 rfl (rn_len_slice Tryd.underlying84 (F10.get rfl)) fun _ F12 => ?_; clear F10
  refine qv 2 (.int .i64 0) F12 rfl (rn_move rfl) fun _ F14 => ?_; clear F12
  refine wpList_nil ?_
  refine hK8 _ _ ?_
  clear hK8
  refine wp_block ?_
  refine wp_loop (fun a' W => ∃ (k : Nat), Sl 36 [(0, (.slice A l.length c)), (2, (.slice none 0 0)), (3, (.int .i64 ((l.take k).flatten.length : Nat))), (9, (.slice A l.length c)), (10, (.int .i64 (l.length : Nat))), (11, (.int .i64 (k : Nat)))] a' ∧ k ≤ l.length ∧ (l.take k).flatten.length ≤ l.flatten.length ∧ Ext w W ∧ w.heap.size ≤ W.heap.size) (fun a' _ => l.length - (intOf (a'.eval (.tmp 11))).toNat) ⟨0, ((((((F14.nil.cons (q_get F14 (t := 11) rfl (by first | rfl | (congr 1; omega)))).cons (q_get F14 (t := 10) rfl rfl)).cons (q_get F14 (t := 9) rfl rfl)).cons (q_get F14 (t := 3) rfl (by first | rfl | (congr 1; omega)))).cons (q_get F14 (t := 2) rfl rfl)).cons (q_get F14 (t := 0) rfl rfl)), (by omega), (by simp), (Ext.refl w), (Nat.le_refl _)⟩ ?_
  clear F14
  rintro a15 w16 ⟨k, F17, hp19, hp20, hx18, hf21⟩
  have hL22 := F17
  have z23 := hx18.size
  refine wp_seq_k (fun K24 hK24 => ?_)
  refine wp_region_lit ?_
  refine qv 0 (.bool (decide (((k : Nat) : Int) < ((l.length : Nat) : Int)))) F17 rfl (rn_lss (F17.get rfl) (F17.get rfl)) fun _ F26 => ?_; clear F17
  refine wpList_nil ?_
  refine hK24 _ _ ?_
  clear hK24
  refine wp_seq_k (fun K27 hK27 => ?_)
  by_cases hc28 : ((k : Nat) : Int) < ((l.length : Nat) : Int)
  · skip
    refine wp_cond_true (c_true F26 rfl (decide_eq_true hc28)) ?_
    refine wp_skip ?_
    refine hK27 _ _ ?_
    clear hK27
    refine wp_seq_k (fun K29 hK29 => ?_)
    refine wp_block ?_
    refine wp_seq_k (fun K30 hK30 => ?_)
    refine wp_region_lit ?_
    have d44 := (hl.ext hx18)
    obtain ⟨x31, hi32, hm33⟩ := nth_of_lt l k (by omega)
    obtain ⟨b34, o35, A36, c37, hA38, hl39, hc40, hr41, le42, le43⟩ := RBss.get d44 hi32
    have z45 := flat_le hi32
    refine qv 0 (.pointer (some ⟨b34, o35 + k, none⟩)) F26 rfl (rn_index1 Tryd.underlying84 inf22 ((F26.get rfl).trans (by rw [hA38])) (F26.get rfl) (by omega : (0 : Int) ≤ (k : Nat)) (by omega : ((k : Nat) : Int) < ((l.length : Nat) : Int))) fun _ F47 => ?_; clear F26
    refine qv 1 (.slice A36 x31.length c37) F47 rfl (rn_load (isAgg_no Tryd.underlying22 rfl) (F47.get rfl) (Ext.keep (Ext.refl w16) hc40)) fun _ F49 => ?_; clear F47
    refine qv 2 (.slice A36 x31.length c37) F49 rfl (rn_assign (F49.get rfl)) fun _ F51 => ?_; clear F49
    refine wpList_nil ?_
    refine hK30 _ _ ?_
    clear hK30
    refine wp_seq_k (fun K52 hK52 => ?_)
    refine wp_region_lit ?_
    refine qv 0 (.int .i64 ((l.take k).flatten.length : Nat)) F51 rfl (rn_move (F51.get rfl)) fun _ F54 => ?_; clear F51
    refine qv 1 (.slice A36 x31.length c37) F54 rfl (rn_move (F54.get rfl)) fun _ F56 => ?_; clear F54
    refine qv 2 (.int .i64 (x31.length : Nat)) F56 rfl (rn_len_slice Tryd.underlying22 (F56.get rfl)) fun _ F58 => ?_; clear F56
    refine qv 3 (.int .i64 (((l.take k).flatten.length) + x31.length : Nat)) F58 rfl (rn_addN (a := (l.take k).flatten.length) (b := x31.length) (F58.get rfl) (F58.get rfl) (by omega)) fun _ F60 => ?_; clear F58
    refine qv 4 (.int .i64 (((l.take k).flatten.length) + x31.length : Nat)) F60 rfl (rn_assign (F60.get rfl)) fun _ F62 => ?_; clear F60
    refine wpList_nil ?_
    refine hK52 _ _ ?_
    clear hK52
    have F63 := ((((((((F62.nil.c F62 5 rfl).c F62 12 rfl).c F62 11 rfl).c F62 10 rfl).c F62 9 rfl).c F62 3 rfl).c F62 2 rfl).c F62 0 rfl)
    clear F62
    refine wp_seq_k (fun K64 hK64 => ?_)
    refine wp_region_lit ?_
    refine qv 0 (.int .i64 (((l.take k).flatten.length) + x31.length : Nat)) F63 rfl (rn_move (F63.get rfl)) fun _ F66 => ?_; clear F63
    refine qv 1 (.bool (decide (((((l.take k).flatten.length) + x31.length : Nat) : Int) < (0 : Int)))) F66 rfl (rn_lss (F66.get rfl) rfl) fun _ F68 => ?_; clear F66
    refine wpList_nil ?_
    refine hK64 _ _ ?_
    clear hK64
    by_cases hc69 : ((((l.take k).flatten.length) + x31.length : Nat) : Int) < (0 : Int)
    · skip
      refine wp_cond_true (c_true F68 rfl (decide_eq_true hc69)) ?_
      exfalso; omega
    · skip
      refine wp_cond_false (c_false F68 rfl (decide_eq_false hc69)) ?_
      refine wp_skip ?_
      refine hK29 _ _ ?_
      clear hK29
      refine wp_region_lit ?_
      refine qv 0 (.int .i64 (k + 1 : Nat)) F68 rfl (rn_addN (a := k) (b := 1) (F68.get rfl) rfl (by omega)) fun _ F71 => ?_; clear F68
      refine qv 1 (.int .i64 (k + 1 : Nat)) F71 rfl (rn_move (F71.get rfl)) fun _ F73 => ?_; clear F71
      refine wpList_nil ?_
      refine ⟨⟨(k + 1), ((((((F73.nil.cons (q_get F73 (t := 11) rfl (by first | rfl | (congr 1; omega)))).cons (q_get F73 (t := 10) rfl rfl)).cons (q_get F73 (t := 9) rfl rfl)).cons (q_get F73 (t := 3) rfl (by first | rfl | (congr 1; omega)))).cons (q_get F73 (t := 2) rfl rfl)).cons (q_get F73 (t := 0) rfl rfl)), (by omega), (by omega), ((Ext.refl w).trans hx18), (by omega)⟩, ?_⟩
      rw [F73.get (t := 11) rfl, hL22.get (t := 11) rfl]; simp [intOf] <;> omega
  · skip
    refine wp_cond_false (c_false F26 rfl (decide_eq_false hc28)) ?_
    refine wp_exit ?_
    refine exit_then ?_
    refine exit_then ?_
    refine exit_here ?_
    refine hK7 _ _ ?_
    clear hK7
    refine wp_seq_k (fun K74 hK74 => ?_)
    refine wp_region_lit ?_
    refine qv 0 (.int .i64 ((l.take k).flatten.length : Nat)) F26 rfl (rn_move (F26.get rfl)) fun _ F76 => ?_; clear F26
    refine wpl_op (i := 1) rfl (o_call F76 rfl rfl rfl rfl (rn_call (args2 rfl (F76.get rfl)) rfl (by kernel_rfl)) (grow_any (l.take k).flatten.length _ (by omega)) ?_)
    rintro _ w81 ⟨A77, c78, rfl, r79, hx82⟩
    have z80 := own_form0 r79
    refine ⟨_, rfl, ?_⟩; intro a83 F84; clear F76; have z85 := hx82.size
    refine qv 2 (.slice A77 0 c78) F84 rfl (rn_assign (F84.get rfl)) fun _ F87 => ?_; clear F84
    refine wpList_nil ?_
    refine hK74 _ _ ?_
    clear hK74
    refine wp_seq_k (fun K88 hK88 => ?_)
    refine wp_seq_k (fun K89 hK89 => ?_)
    refine wp_region_lit ?_
    refine qv 0 (.slice A l.length c) F87 rfl (rn_move (F87.get rfl)) fun _ F91 => ?_; clear F87
    refine qv 1 (.int .i64 (l.length : Nat)) F91 rfl (rn_len_slice Tryd.underlying84 (F91.get rfl)) fun _ F93 => ?_; clear F91
    refine qv 2 (.int .i64 0) F93 rfl (rn_move rfl) fun _ F95 => ?_; clear F93
    refine wpList_nil ?_
    refine hK89 _ _ ?_
    clear hK89
    refine wp_block ?_
    refine wp_loop (fun a' W => ∃ (k2 : Nat) (A6 : Option Addr) (c6 : Nat) (n6 : Nat) (l6 : List UInt8), Sl 36 [(0, (.slice A l.length c)), (2, (.slice none 0 0)), (3, (.int .i64 ((l.take k).flatten.length : Nat))), (9, (.slice A l.length c)), (10, (.int .i64 (l.length : Nat))), (11, (.int .i64 (k : Nat))), (12, (.bool (decide (((k : Nat) : Int) < ((l.length : Nat) : Int))))), (6, (.slice A6 n6 c6)), (25, (.slice A l.length c)), (26, (.int .i64 (l.length : Nat))), (27, (.int .i64 (k2 : Nat)))] a' ∧ k2 ≤ l.length ∧ n6 = (l.take k2).flatten.length ∧ l6 = (l.take k2).flatten ∧ Ext w W ∧ W.ownsRow w16.heap.size 5 1 (.slice A6 n6 c6) n6 (byteVals l6) ∧ w16.heap.size ≤ W.heap.size ∧ w81.heap.size ≤ W.heap.size) (fun a' _ => l.length - (intOf (a'.eval (.tmp 27))).toNat) ⟨0, A77, c78, 0, [], (((((((((((F95.nil.cons (q_get F95 (t := 27) rfl (by first | rfl | (congr 1; omega)))).cons (q_get F95 (t := 26) rfl rfl)).cons (q_get F95 (t := 25) rfl rfl)).cons (q_get F95 (t := 6) rfl (by first | rfl | (congr 1; omega)))).cons (q_get F95 (t := 12) rfl rfl)).cons (q_get F95 (t := 11) rfl rfl)).cons (q_get F95 (t := 10) rfl rfl)).cons (q_get F95 (t := 9) rfl rfl)).cons (q_get F95 (t := 3) rfl rfl)).cons (q_get F95 (t := 2) rfl rfl)).cons (q_get F95 (t := 0) rfl rfl)), (by omega), (by simp), (by simp), (((Ext.refl w).trans hx18).trans hx82), r79, (by omega), (Nat.le_refl _)⟩ ?_
    clear F95
    rintro a96 w97 ⟨k2, A6, c6, n6, l6, F98, hp100, hp101, hp102, hx99, r103, hf104, hf105⟩
    have hL106 := F98
    have z107 := hx99.size
    have z108 := own_form0 r103
    refine wp_seq_k (fun K109 hK109 => ?_)
    refine wp_region_lit ?_
    refine qv 0 (.bool (decide (((k2 : Nat) : Int) < ((l.length : Nat) : Int)))) F98 rfl (rn_lss (F98.get rfl) (F98.get rfl)) fun _ F111 => ?_; clear F98
    refine wpList_nil ?_
    refine hK109 _ _ ?_
    clear hK109
    refine wp_seq_k (fun K112 hK112 => ?_)
    by_cases hc113 : ((k2 : Nat) : Int) < ((l.length : Nat) : Int)
    · skip
      refine wp_cond_true (c_true F111 rfl (decide_eq_true hc113)) ?_
      refine wp_skip ?_
      refine hK112 _ _ ?_
      clear hK112
      refine wp_seq_k (fun K114 hK114 => ?_)
      refine wp_block ?_
      refine wp_seq_k (fun K115 hK115 => ?_)
      refine wp_region_lit ?_
      have d129 := (hl.ext hx99)
      obtain ⟨x116, hi117, hm118⟩ := nth_of_lt l k2 (by omega)
      obtain ⟨b119, o120, A121, c122, hA123, hl124, hc125, hr126, le127, le128⟩ := RBss.get d129 hi117
      have z130 := flat_le hi117
      refine qv 0 (.pointer (some ⟨b119, o120 + k2, none⟩)) F111 rfl (rn_index1 Tryd.underlying84 inf22 ((F111.get rfl).trans (by rw [hA123])) (F111.get rfl) (by omega : (0 : Int) ≤ (k2 : Nat)) (by omega : ((k2 : Nat) : Int) < ((l.length : Nat) : Int))) fun _ F132 => ?_; clear F111
      refine qv 1 (.slice A121 x116.length c122) F132 rfl (rn_load (isAgg_no Tryd.underlying22 rfl) (F132.get rfl) (Ext.keep (Ext.refl w97) hc125)) fun _ F134 => ?_; clear F132
      refine qv 2 (.slice A121 x116.length c122) F134 rfl (rn_assign (F134.get rfl)) fun _ F136 => ?_; clear F134
      refine wpList_nil ?_
      refine hK115 _ _ ?_
      clear hK115
      refine wp_region_lit ?_
      refine qv 0 (.slice A6 n6 c6) F136 rfl (rn_move (F136.get rfl)) fun _ F138 => ?_; clear F136
      refine qv 1 (.slice A121 x116.length c122) F138 rfl (rn_move (F138.get rfl)) fun _ F140 => ?_; clear F138
      have hf148 := r103
      refine wpl_op (i := 2) rfl (o_appA (zs := byteVals (l6 ++ x116)) El22 F140 rfl rfl rfl rfl rfl (F140.get rfl) (F140.get rfl) hf148 (Fl.cel (RBs.fl hr126)).2.2 (by omega) (by omega) (by omega) (byteVals_app _ _) ?_)
      intro A141 c142 w143 a149 F150 r144 hg145 z146 z147; clear F140; have z151 := hg145.size
      refine qv 3 (.slice A141 (n6 + x116.length) c142) F150 rfl (rn_assign (F150.get rfl)) fun _ F153 => ?_; clear F150
      refine wpList_nil ?_
      refine hK114 _ _ ?_
      clear hK114
      have F154 := (((((((((((((F153.nil.c F153 8 rfl).c F153 28 rfl).c F153 27 rfl).c F153 26 rfl).c F153 25 rfl).c F153 6 rfl).c F153 12 rfl).c F153 11 rfl).c F153 10 rfl).c F153 9 rfl).c F153 3 rfl).c F153 2 rfl).c F153 0 rfl)
      clear F153
      refine wp_region_lit ?_
      refine qv 0 (.int .i64 (k2 + 1 : Nat)) F154 rfl (rn_addN (a := k2) (b := 1) (F154.get rfl) rfl (by omega)) fun _ F156 => ?_; clear F154
      refine qv 1 (.int .i64 (k2 + 1 : Nat)) F156 rfl (rn_move (F156.get rfl)) fun _ F158 => ?_; clear F156
      refine wpList_nil ?_
      refine ⟨⟨(k2 + 1), A141, c142, n6 + x116.length, l6 ++ x116, (((((((((((F158.nil.cons (q_get F158 (t := 27) rfl (by first | rfl | (congr 1; omega)))).cons (q_get F158 (t := 26) rfl rfl)).cons (q_get F158 (t := 25) rfl rfl)).cons (q_get F158 (t := 6) rfl (by first | rfl | (congr 1; omega)))).cons (q_get F158 (t := 12) rfl rfl)).cons (q_get F158 (t := 11) rfl rfl)).cons (q_get F158 (t := 10) rfl rfl)).cons (q_get F158 (t := 9) rfl rfl)).cons (q_get F158 (t := 3) rfl rfl)).cons (q_get F158 (t := 2) rfl rfl)).cons (q_get F158 (t := 0) rfl rfl)), (by omega), (by omega), (by rw [flat_step hi117, ← hp102]), (ext_row ((Ext.refl w).trans hx99) hg145 hf148 (by omega)), r144, (by omega), (by omega)⟩, ?_⟩
      rw [F158.get (t := 27) rfl, hL106.get (t := 27) rfl]; simp [intOf] <;> omega
    · skip
      refine wp_cond_false (c_false F111 rfl (decide_eq_false hc113)) ?_
      refine wp_exit ?_
      refine exit_then ?_
      refine exit_then ?_
      refine exit_here ?_
      refine hK88 _ _ ?_
      clear hK88
      refine wp_seq_k (fun K159 hK159 => ?_)
      refine wp_region_lit ?_
      refine qv 0 (.slice A6 n6 c6) F111 rfl (rn_move (F111.get rfl)) fun _ F161 => ?_; clear F111
      refine qv 1 (.slice A6 n6 c6) F161 rfl (rn_assign (F161.get rfl)) fun _ F163 => ?_; clear F161
      refine wpList_nil ?_
      refine hK159 _ _ ?_
      clear hK159
      refine wp_ret ?_
      refine ret1 F163 rfl rfl ?_
      have hk2 : k2 = l.length := by omega
      have hfl : l6 = l.flatten := by rw [hp102, hk2, List.take_length]
      have hn6 : n6 = l.flatten.length := by rw [← hfl]; have := (Fl.own (S := fun _ => True) r103 (fun _ _ => trivial) (byteVals_one _)).len; simp [byteVals] at this; omega
      have hrow := Fl.own (S := fun b => w.heap.size ≤ b) r103 (fun b hb => by omega) (byteVals_one _)
      have hx6 := ((Ext.refl w).trans hx99)
      subst hfl hn6
      exact ⟨A6, c6, rfl, hrow, hx6⟩

theorem concat_at {v : Value} {n : Nat} (l : List (List UInt8)) (w : World) (hl : RBss S w v l) (he : l.flatten.length = n) (hn : n ≤ 140737488355328) :
    Calls Tryd.prog 52 #[v] w (fun e w' => ∃ A c, e = .returned (.slice A n c) ∧ Fl (fun b => w.heap.size ≤ b) w' 1 (.slice A n c) n (byteVals l.flatten) ∧ Ext w w') := by
  subst he
  obtain ⟨A, c, rfl, _⟩ := RSl.form hl
  exact concat_any A c l w hl hn

end Go.Proofs.YtmjgjopbeokajaaDoor

namespace Go.Proofs.YtmjgjopbeokajaaDoor

variable (nodeD : List UInt8 → List UInt8 → List UInt8) (leafD : List UInt8 → List UInt8) (emptyD : List UInt8)
/-- the greatest power of 2 that is less than n -/
def half (n : Nat) : Nat := 2 ^ Nat.log2 (n - 1)
theorem half_pos (n : Nat) : 1 ≤ half n := Nat.one_le_two_pow
theorem half_lt {n : Nat} (h : 2 ≤ n) : half n < n := by
  have := Nat.log2_self_le (n := n - 1) (by omega)
  unfold half; omega
theorem half_unique {n k : Nat} (j : Nat) (hk : k = 2 ^ j) (h1 : k < n) (h2 : n ≤ 2 * k) : k = half n := by
  subst hk
  unfold half
  congr 1
  have : (n - 1).log2 = j := by
    apply (Nat.log2_eq_iff (by have := Nat.one_le_two_pow (n := j); omega)).2
    rw [Nat.pow_succ]; omega
  exact this.symm
def tree (l : List (List UInt8)) : List UInt8 :=
  if l.length = 0 then emptyD else if _h : l.length = 1 then leafD (l.getD 0 []) else nodeD (tree (l.take (half l.length))) (tree (l.drop (half l.length)))
termination_by l.length
decreasing_by
  · have := half_lt (n := l.length) (by omega); simp; omega
  · have := half_pos l.length; simp; omega
theorem tree_eq {l : List (List UInt8)} (h : 2 ≤ l.length) : tree nodeD leafD emptyD l = nodeD (tree nodeD leafD emptyD (l.take (half l.length))) (tree nodeD leafD emptyD (l.drop (half l.length))) := by
  rw [tree, if_neg (by omega), dif_neg (by omega)]
theorem tree_one {l : List (List UInt8)} (h : l.length = 1) : tree nodeD leafD emptyD l = leafD (l.getD 0 []) := by
  rw [tree, if_neg (by omega), dif_pos h]
theorem tree_nil : tree nodeD leafD emptyD [] = emptyD := by
  rw [tree]; rfl
def pathL (l : List (List UInt8)) (at_ : Nat) : List (List UInt8) :=
  if _h : l.length ≤ 1 then [] else
    if at_ < half l.length then pathL (l.take (half l.length)) at_ ++ [tree nodeD leafD emptyD (l.drop (half l.length))]
    else pathL (l.drop (half l.length)) (at_ - half l.length) ++ [tree nodeD leafD emptyD (l.take (half l.length))]
termination_by l.length
decreasing_by
  · have := half_lt (n := l.length) (by omega); simp; omega
  · have := half_pos l.length; simp; omega
/-- from the top: whether the element is in the first half -/
def dirs (at_ n : Nat) : List Bool :=
  if _h : n ≤ 1 then [] else if at_ < half n then true :: dirs at_ (half n) else false :: dirs (at_ - half n) (n - half n)
termination_by n
decreasing_by
  · have := half_lt (n := n) (by omega); omega
  · have := half_pos n; omega
def step1 (x : List UInt8) (q : List UInt8 × Bool) : List UInt8 := if q.2 then nodeD x q.1 else nodeD q.1 x
def climbL (d : List UInt8) (at_ n : Nat) (p : List (List UInt8)) : List UInt8 := (p.zip (dirs at_ n).reverse).foldl (step1 nodeD) (leafD d)
/-- the reference's climb -/
theorem climb_first {d : List UInt8} {at_ n : Nat} {p : List (List UInt8)} {x : List UInt8} (h : 2 ≤ n) (h2 : at_ < half n) (hp : (p ++ [x]).length = (dirs at_ n).length) :
    climbL nodeD leafD d at_ n (p ++ [x]) = nodeD (climbL nodeD leafD d at_ (half n) p) x := by
  unfold climbL
  rw [dirs, dif_neg (by omega), if_pos h2] at hp ⊢
  rw [List.reverse_cons, List.zip_append (by simpa using hp), List.foldl_append]
  rfl
theorem climb_second {d : List UInt8} {at_ n : Nat} {p : List (List UInt8)} {x : List UInt8} (h : 2 ≤ n) (h2 : ¬ at_ < half n) (hp : (p ++ [x]).length = (dirs at_ n).length) :
    climbL nodeD leafD d at_ n (p ++ [x]) = nodeD x (climbL nodeD leafD d (at_ - half n) (n - half n) p) := by
  unfold climbL
  rw [dirs, dif_neg (by omega), if_neg h2] at hp ⊢
  rw [List.reverse_cons, List.zip_append (by simpa using hp), List.foldl_append]
  rfl
theorem dirs_one {at_ n : Nat} (h : n ≤ 1) : dirs at_ n = [] := by rw [dirs, dif_pos h]
theorem dirs_first {at_ n : Nat} (h : 2 ≤ n) (h2 : at_ < half n) : dirs at_ n = true :: dirs at_ (half n) := by rw [dirs, dif_neg (by omega), if_pos h2]
theorem dirs_second {at_ n : Nat} (h : 2 ≤ n) (h2 : ¬ at_ < half n) : dirs at_ n = false :: dirs (at_ - half n) (n - half n) := by rw [dirs, dif_neg (by omega), if_neg h2]
theorem path_one {l : List (List UInt8)} {at_ : Nat} (h : l.length ≤ 1) : pathL nodeD leafD emptyD l at_ = [] := by rw [pathL, dif_pos h]
theorem path_first {l : List (List UInt8)} {at_ : Nat} (h : 2 ≤ l.length) (h2 : at_ < half l.length) : pathL nodeD leafD emptyD l at_ = pathL nodeD leafD emptyD (l.take (half l.length)) at_ ++ [tree nodeD leafD emptyD (l.drop (half l.length))] := by rw [pathL, dif_neg (by omega), if_pos h2]
theorem path_second {l : List (List UInt8)} {at_ : Nat} (h : 2 ≤ l.length) (h2 : ¬ at_ < half l.length) : pathL nodeD leafD emptyD l at_ = pathL nodeD leafD emptyD (l.drop (half l.length)) (at_ - half l.length) ++ [tree nodeD leafD emptyD (l.take (half l.length))] := by rw [pathL, dif_neg (by omega), if_neg h2]
end Go.Proofs.YtmjgjopbeokajaaDoor

namespace Go.Proofs.YtmjgjopbeokajaaDoor
open Go.RowKit

variable {S S' : Nat → Prop}

def tagged (tag b : List UInt8) : List UInt8 := bsum (bsum tag ++ b)
def leafD (d : List UInt8) : List UInt8 := tagged [108, 101, 97, 102] d
def nodeD (a b : List UInt8) : List UInt8 := tagged [110, 111, 100, 101] (a ++ b)
def emptyD : List UInt8 := tagged [101, 109, 112, 116, 121] []
def treeD (l : List (List UInt8)) : List UInt8 := tree nodeD leafD emptyD l
theorem tagged_len (t b : List UInt8) : (tagged t b).length = 32 := bsum_len _
theorem leafD_len (d : List UInt8) : (leafD d).length = 32 := bsum_len _
theorem nodeD_len (a b : List UInt8) : (nodeD a b).length = 32 := bsum_len _
theorem treeD_len (l : List (List UInt8)) : (treeD l).length = 32 := by
  unfold treeD
  rw [tree]
  split
  · exact bsum_len _
  · split
    · exact bsum_len _
    · exact bsum_len _
theorem half_bits {n : Nat} (h : 2 ≤ n) (h2 : n ≤ 9223372036854775807) : 1 * 2 ^ (Lib.bitLen (((UInt64.ofNat (n - 1)).toNat : Nat) : Int).toNat - 1) = half n ∧ 1 ≤ Lib.bitLen (((UInt64.ofNat (n - 1)).toNat : Nat) : Int).toNat ∧ Lib.bitLen (((UInt64.ofNat (n - 1)).toNat : Nat) : Int).toNat ≤ 63 := by
  rw [Int.toNat_natCast, UInt64.toNat_ofNat_of_lt' (by show n - 1 < 18446744073709551616; omega)]
  obtain ⟨h3, h4, h5⟩ := Lib.bitLenAux_bounds 64 (n - 1) (by omega) (by omega)
  have h6 := Lib.bitLen_le (n - 1) 63 (by omega) (by omega)
  unfold half
  have : (n - 1).log2 = Lib.bitLen (n - 1) - 1 := (Nat.log2_eq_iff (by omega)).2 ⟨h4, by unfold Lib.bitLen; rw [show Lib.bitLenAux 64 (n - 1) - 1 + 1 = Lib.bitLenAux 64 (n - 1) by omega]; exact h5⟩
  rw [this]
  exact ⟨Nat.one_mul _, h3, h6⟩

set_option maxRecDepth 100000 in
set_option maxHeartbeats 1000000 in
theorem half_any (n : Nat) (w : World) (h2 : 2 ≤ n) (hm : n ≤ 9223372036854775807) :
    Calls Tryd.prog 53 #[.int .i64 (n : Nat)] w (fun e w' => e = .returned (.int .i64 (half n : Nat)) ∧ Ext w w') := by
  obtain ⟨hb1, hb2, hb3⟩ := half_bits h2 hm
  have hlt := half_lt h2
  refine calls_enter (l := [(.int .i64 (n : Nat))]) Tryd.func53 rfl rfl rfl (fun aA hF => ?_)
  refine wp_seq_k (fun K1 hK1 => ?_)
  refine wp_region_lit ?_
  refine qv 0 (.int .i64 0) hF rfl (rn_assign rfl) fun _ F3 => ?_; clear hF
  refine wpList_nil ?_
  refine hK1 _ _ ?_
  clear hK1
  refine wp_seq_k (fun K4 hK4 => ?_)
  refine wp_region_lit ?_
  refine qv 0 (.int .i64 (n : Nat)) F3 rfl (rn_move (F3.get rfl)) fun _ F6 => ?_; clear F3
  refine qv 1 (.int .i64 (n - 1 : Nat)) F6 rfl (rn_subN (a := n) (b := 1) (F6.get rfl) rfl (by omega) (by omega)) fun _ F8 => ?_; clear F6
  refine qv 2 (.int .u64 ((UInt64.ofNat (n - 1)).toNat : Nat)) F8 rfl (rn_convW Tryd.underlying3 Tryd.underlying78 (F8.get rfl) (cvi_64 (n - 1) (by omega))) fun _ F10 => ?_; clear F8
  refine wpl_op (i := 3) rfl (o_call F10 rfl rfl rfl rfl (rn_call (args1 (F10.get rfl)) rfl (by kernel_rfl)) (Tryd.bits_Len _ _ (by omega) (by have := ((UInt64.ofNat (n - 1))).toNat_lt; omega)) ?_)
  rintro _ w11 ⟨rfl, hx12⟩
  have hx12 := Ext.of_eq hx12
  refine ⟨_, rfl, ?_⟩; intro a13 F14; clear F10; have z15 := hx12.size
  refine qv 4 (.int .i64 ((Lib.bitLen ((((UInt64.ofNat (n - 1))).toNat : Nat) : Int).toNat) - 1 : Nat)) F14 rfl (rn_subN (a := Lib.bitLen ((((UInt64.ofNat (n - 1))).toNat : Nat) : Int).toNat) (b := 1) (F14.get rfl) rfl (by omega) (by omega)) fun _ F17 => ?_; clear F14
  refine qv 5 (.int .i64 (half n : Nat)) F17 rfl (by rw [← hb1]; exact rn_shlN rfl (F17.get rfl) (by omega) (by omega)) fun _ F19 => ?_; clear F17
  refine qv 6 (.int .i64 (half n : Nat)) F19 rfl (rn_assign (F19.get rfl)) fun _ F21 => ?_; clear F19
  refine wpList_nil ?_
  refine hK4 _ _ ?_
  clear hK4
  have F22 := ((F21.nil.c F21 2 rfl).c F21 0 rfl)
  clear F21
  refine wp_ret ?_
  refine ret1 F22 rfl rfl ?_
  exact ⟨rfl, ((Ext.refl w).trans hx12)⟩

set_option maxRecDepth 100000 in
set_option maxHeartbeats 1000000 in
theorem tagged_any (tag : List UInt8) (A : Option Addr) (c : Nat) (b : List UInt8) (w : World) (hf : Fl S w 1 (.slice A b.length c) b.length (byteVals b)) (hG : Glob w) (ht : tag.length ≤ 9223372036854775807) (hb : b.length ≤ 140737488355296) :
    Calls Tryd.prog 29 #[strOf tag, .slice A b.length c] w (fun e w' => e = .returned (.agg (byteVals (tagged tag b)).toArray) ∧ Ext w w') := by
  have hc : Fl (Clip S w) w 1 (.slice A b.length c) b.length (byteVals b) := hf.clip
  have hcc := (Fl.cel hc).2.1
  refine calls_enter (l := [(strOf tag), (.slice A b.length c)]) Tryd.func29 rfl rfl rfl (fun aA hF => ?_)
  refine wp_seq_k (fun K1 hK1 => ?_)
  refine wp_region_lit ?_
  refine wpl_op (i := 0) rfl (o_new (fun g => (.pointer (some ⟨g, 0, none⟩))) (byteVals (List.replicate 32 0)) 37 hF rfl rfl rfl rfl (by kernel_rfl) ?_)
  intro g2 w3 a8 F9 z6 z7 b4 hx5; clear hF
  refine wpList_nil ?_
  refine hK1 _ _ ?_
  clear hK1
  refine wp_seq_k (fun K10 hK10 => ?_)
  refine wp_region_lit ?_
  refine qv 0 (strOf tag) F9 rfl (rn_move (F9.get rfl)) fun _ F12 => ?_; clear F9
  refine wpl_op (i := 1) rfl (o_strB (l := tag) F12 rfl rfl rfl rfl rfl (F12.get rfl) Tryd.underlying9 Tryd.underlying22 Tryd.underlying5 (by omega) ?_)
  intro g13 c14 w15 a21 F22 z18 z19 z20 hf16 hx17; clear F12
  refine wpl_op (i := 2) rfl (o_call F22 rfl rfl rfl rfl (rn_call (args1 (F22.get rfl)) rfl (by kernel_rfl)) (sum_at (v := (.slice (some ⟨g13, 0, none⟩) tag.length c14)) (n := tag.length) tag _ hf16 (hG.ext (((Ext.refl w).trans hx5).trans hx17))) ?_)
  rintro _ w23 ⟨rfl, hx24⟩
  refine ⟨_, rfl, ?_⟩; intro a25 F26; clear F22; have z27 := hx24.size
  refine wpl_op (i := 3) rfl (o_new (fun g => (.pointer (some ⟨g, 0, none⟩))) (byteVals (List.replicate 32 0)) 37 F26 rfl rfl rfl rfl (by kernel_rfl) ?_)
  intro g28 w29 a34 F35 z32 z33 b30 hx31; clear F26
  refine wpl_op (i := 4) rfl (o_store (cells := (byteVals (bsum tag))) F35 rfl rfl rfl rfl (F35.get rfl) (F35.get rfl) b30 (inf37.trans (congrArg some (byteVals_len (bsum_len _)).symm)) ((byteVals_len (show List.length (List.replicate 32 0) = _ from List.length_replicate)).trans (byteVals_len (bsum_len _)).symm) (byteVals_one _) ?_)
  intro w36 b37 hg38; have z39 := hg38.size
  refine wpList_nil ?_
  refine hK10 _ _ ?_
  clear hK10
  refine wp_seq_k (fun K40 hK40 => ?_)
  refine wp_region_lit ?_
  refine qv 0 (.slice (some ⟨g28, 0, none⟩) 32 32) F35 rfl (rn_arrAll Tryd.underlying37 inf5 (F35.get rfl)) fun _ F42 => ?_; clear F35
  refine qv 1 (.slice A b.length c) F42 rfl (rn_move (F42.get rfl)) fun _ F44 => ?_; clear F42
  refine wpl_op (i := 2) rfl (o_new (fun g => (.slice (some ⟨g, 0, none⟩) 2 2)) [(.slice (some ⟨g28, 0, none⟩) 32 32), (.slice A b.length c)] 22 F44 rfl rfl rfl rfl (rn_buildSlice (parts2 (F44.get rfl) (F44.get rfl)) (by kernel_rfl)) ?_)
  intro g45 w46 a51 F52 z49 z50 b47 hx48; clear F44
  have b53 := (b37.ext hx48)
  have d54 := (hc.pres (((((((Pres.refl w).ext hx5).ext hx17).ext hx24).ext hx31).grownN hg38 (fun h => by simp only [Clip] at h; omega)).ext hx48))
  have hn58 := Fl.blen (Fl.blk (S := fun b => b = g28) (k := 1) (n := 32) (c := 32) b53 (by rw [byteVals_len (bsum_len _), Nat.mul_one]) (byteVals_one _) (by omega) rfl)
  have hn59 := Fl.blen d54
  have hn60 : ([bsum tag, b]).flatten.length = 32 + b.length := by simp only [List.flatten_cons, List.flatten_nil, List.length_append, List.length_nil]; omega
  refine wpl_op (i := 3) rfl (o_call F52 rfl rfl rfl rfl (rn_call (args1 (F52.get rfl)) rfl (by kernel_rfl)) (concat_at [bsum tag, b] _ (RBss.two b47 (Fl.blk (S := fun b => b = g28) (k := 1) (n := 32) (c := 32) b53 (by rw [byteVals_len (bsum_len _), Nat.mul_one]) (byteVals_one _) (by omega) rfl) d54) hn60 (by omega)) ?_)
  rintro _ w61 ⟨A55, c56, rfl, hf57, hx62⟩
  rw [show ([bsum tag, b]).flatten = (bsum tag) ++ b from by simp] at hf57
  refine ⟨_, rfl, ?_⟩; intro a63 F64; clear F52; have z65 := hx62.size
  refine wpl_op (i := 4) rfl (o_call F64 rfl rfl rfl rfl (rn_call (args1 (F64.get rfl)) rfl (by kernel_rfl)) (sum_at (v := (.slice A55 (32 + b.length) c56)) (n := (32 + b.length)) ((bsum tag) ++ b) _ hf57 (hG.ext ((((((((Ext.refl w).trans hx5).trans hx17).trans hx24).trans hx31).grownN hg38 (by omega)).trans hx48).trans hx62))) ?_)
  rintro _ w66 ⟨rfl, hx67⟩
  refine ⟨_, rfl, ?_⟩; intro a68 F69; clear F64; have z70 := hx67.size
  have b74 := (((((((b4.ext hx17).ext hx24).ext hx31).grownN hg38 (by omega)).ext hx48).ext hx62).ext hx67)
  refine wpl_op (i := 5) rfl (o_store (cells := (byteVals (bsum ((bsum tag) ++ b)))) F69 rfl rfl rfl rfl (F69.get rfl) (F69.get rfl) b74 (inf37.trans (congrArg some (byteVals_len (bsum_len _)).symm)) ((byteVals_len (show List.length (List.replicate 32 0) = _ from List.length_replicate)).trans (byteVals_len (bsum_len _)).symm) (byteVals_one _) ?_)
  intro w71 b72 hg73; have z75 := hg73.size
  refine wpList_nil ?_
  refine hK40 _ _ ?_
  clear hK40
  have F76 := ((((F69.nil.c F69 5 rfl).c F69 4 rfl).c F69 1 rfl).c F69 0 rfl)
  clear F69
  refine wp_ret ?_
  refine retC F76 rfl rfl b72 Tryd.underlying37 rfl (inf37.trans (congrArg some (byteVals_len (bsum_len _)).symm)) ?_
  exact ⟨rfl, ((((((((((Ext.refl w).trans hx5).trans hx17).trans hx24).trans hx31).grownN hg38 (by omega)).trans hx48).trans hx62).trans hx67).grownN hg73 (by omega))⟩

theorem tagged_at (tag : List UInt8) {v : Value} {n : Nat} (b : List UInt8) (w : World) (hf : Fl S w 1 v n (byteVals b)) (hG : Glob w) (ht : tag.length ≤ 9223372036854775807) (hb : n ≤ 140737488355296) : Calls Tryd.prog 29 #[strOf tag, v] w (fun e w' => e = .returned (.agg (byteVals (tagged tag b)).toArray) ∧ Ext w w') := by
  have hm := hf.blen
  subst hm
  obtain ⟨A, c, rfl, _⟩ := hf.form
  exact tagged_any tag A c b w hf hG ht hb

set_option maxRecDepth 100000 in
set_option maxHeartbeats 1000000 in
theorem leaf_any (d : List UInt8) (w : World) (hd : d.length = 32) (hG : Glob w) :
    Calls Tryd.prog 56 #[.agg (byteVals d).toArray] w (fun e w' => e = .returned (.agg (byteVals (leafD d)).toArray) ∧ Ext w w') := by
  refine calls_enter (l := [(.agg (byteVals d).toArray)]) Tryd.func56 rfl rfl rfl (fun aA hF => ?_)
  refine wp_seq_k (fun K1 hK1 => ?_)
  refine wp_region_lit ?_
  refine wpl_op (i := 0) rfl (o_new (fun g => (.pointer (some ⟨g, 0, none⟩))) (byteVals d) 37 hF rfl rfl rfl rfl (rn_box (hF.get rfl) (box_arr _)) ?_)
  intro g2 w3 a8 F9 z6 z7 b4 hx5; clear hF
  refine wpl_op (i := 1) rfl (o_new (fun g => (.pointer (some ⟨g, 0, none⟩))) (byteVals (List.replicate 32 0)) 37 F9 rfl rfl rfl rfl (by kernel_rfl) ?_)
  intro g10 w11 a16 F17 z14 z15 b12 hx13; clear F9
  refine wpList_nil ?_
  refine hK1 _ _ ?_
  clear hK1
  refine wp_seq_k (fun K18 hK18 => ?_)
  refine wp_region_lit ?_
  refine qv 0 (.slice (some ⟨g2, 0, none⟩) 32 32) F17 rfl (rn_arrAll Tryd.underlying37 inf5 (F17.get rfl)) fun _ F20 => ?_; clear F17
  have b21 := (b4.ext hx13)
  refine wpl_op (i := 1) rfl (o_call F20 rfl rfl rfl rfl (rn_call (args2 rfl (F20.get rfl)) rfl (by kernel_rfl)) (tagged_at ([108, 101, 97, 102]) (v := (.slice (some ⟨g2, 0, none⟩) 32 32)) (n := 32) d _ (Fl.blk (S := fun b => b = g2) (k := 1) (n := 32) (c := 32) b21 (by rw [byteVals_len hd, Nat.mul_one]) (byteVals_one _) (by omega) rfl) (hG.ext (((Ext.refl w).trans hx5).trans hx13)) (by simp <;> omega) (by omega)) ?_)
  rintro _ w22 ⟨rfl, hx23⟩
  refine ⟨_, rfl, ?_⟩; intro a24 F25; clear F20; have z26 := hx23.size
  have b30 := (b12.ext hx23)
  refine wpl_op (i := 2) rfl (o_store (cells := (byteVals (tagged ([108, 101, 97, 102]) d))) F25 rfl rfl rfl rfl (F25.get rfl) (F25.get rfl) b30 (inf37.trans (congrArg some (byteVals_len (tagged_len _ _)).symm)) ((byteVals_len (show List.length (List.replicate 32 0) = _ from List.length_replicate)).trans (byteVals_len (tagged_len _ _)).symm) (byteVals_one _) ?_)
  intro w27 b28 hg29; have z31 := hg29.size
  refine wpList_nil ?_
  refine hK18 _ _ ?_
  clear hK18
  refine wp_ret ?_
  refine retC F25 rfl rfl b28 Tryd.underlying37 rfl (inf37.trans (congrArg some (byteVals_len (tagged_len _ _)).symm)) ?_
  exact ⟨rfl, (((((Ext.refl w).trans hx5).trans hx13).trans hx23).grownN hg29 (by omega))⟩

set_option maxRecDepth 100000 in
set_option maxHeartbeats 1000000 in
theorem node_any (d d2 : List UInt8) (w : World) (hd : d.length = 32) (hd2 : d2.length = 32) (hG : Glob w) :
    Calls Tryd.prog 57 #[.agg (byteVals d).toArray, .agg (byteVals d2).toArray] w (fun e w' => e = .returned (.agg (byteVals (nodeD d d2)).toArray) ∧ Ext w w') := by
  refine calls_enter (l := [(.agg (byteVals d).toArray), (.agg (byteVals d2).toArray)]) Tryd.func57 rfl rfl rfl (fun aA hF => ?_)
  refine wp_seq_k (fun K1 hK1 => ?_)
  refine wp_region_lit ?_
  refine wpl_op (i := 0) rfl (o_new (fun g => (.pointer (some ⟨g, 0, none⟩))) (byteVals d) 37 hF rfl rfl rfl rfl (rn_box (hF.get rfl) (box_arr _)) ?_)
  intro g2 w3 a8 F9 z6 z7 b4 hx5; clear hF
  refine wpl_op (i := 1) rfl (o_new (fun g => (.pointer (some ⟨g, 0, none⟩))) (byteVals d2) 37 F9 rfl rfl rfl rfl (rn_box (F9.get rfl) (box_arr _)) ?_)
  intro g10 w11 a16 F17 z14 z15 b12 hx13; clear F9
  refine wpl_op (i := 2) rfl (o_new (fun g => (.pointer (some ⟨g, 0, none⟩))) (byteVals (List.replicate 32 0)) 37 F17 rfl rfl rfl rfl (by kernel_rfl) ?_)
  intro g18 w19 a24 F25 z22 z23 b20 hx21; clear F17
  refine wpList_nil ?_
  refine hK1 _ _ ?_
  clear hK1
  refine wp_seq_k (fun K26 hK26 => ?_)
  have hx28 : ∃ W, w19.drew = W ∧ Ext w19 W := ⟨_, rfl, (Ext.refl _).drew⟩
  obtain ⟨w27, e29, hx28⟩ := hx28
  have z30 := hx28.size
  refine any_start (fun W => Ext w27 W ∧ Blk W g2 37 (byteVals d) ∧ Blk W g10 37 (byteVals d2) ∧ Blk W g18 37 (byteVals (List.replicate 32 0))) (fun i => i == 5) 6 #[false, false, false, false, false, false] rfl rfl rfl ?_
  rw [e29]; clear e29
  refine qp 0 (.slice (some ⟨g2, 0, none⟩) 32 32) F25 rfl rfl (fun W => (rn_arrAll Tryd.underlying37 inf5 (F25.get rfl))) fun _ F32 => ?_; clear F25
  refine qp 1 (.slice (some ⟨g10, 0, none⟩) 32 32) F32 rfl rfl (fun W => (rn_arrAll Tryd.underlying37 inf5 (F32.get rfl))) fun _ F34 => ?_; clear F32
  refine any_one (i := 2) (by decide +kernel) rfl ?_
  refine o_new (fun g => (.slice (some ⟨g, 0, none⟩) 2 2)) [(.slice (some ⟨g2, 0, none⟩) 32 32), (.slice (some ⟨g10, 0, none⟩) 32 32)] 22 F34 rfl rfl rfl rfl (rn_buildSlice (parts2 (F34.get rfl) (F34.get rfl)) (by kernel_rfl)) ?_
  intro g35 w36 a41 F42 z39 z40 b37 hx38; clear F34
  have b43 := ((((b4.ext hx13).ext hx21).ext hx28).ext hx38)
  have b44 := (((b12.ext hx21).ext hx28).ext hx38)
  have b45 := ((b20.ext hx28).ext hx38)
  refine ⟨fun _ _ => ⟨((Ext.refl w27).trans hx38), b43, b44, b45⟩, ?_⟩
  refine any_one (i := 3) (by decide +kernel) rfl ?_
  have hn49 := Fl.blen (Fl.blk (S := fun b => b = g2) (k := 1) (n := 32) (c := 32) b43 (by rw [byteVals_len hd, Nat.mul_one]) (byteVals_one _) (by omega) rfl)
  have hn50 := Fl.blen (Fl.blk (S := fun b => b = g10) (k := 1) (n := 32) (c := 32) b44 (by rw [byteVals_len hd2, Nat.mul_one]) (byteVals_one _) (by omega) rfl)
  have hn51 : ([d, d2]).flatten.length = 32 + 32 := by simp only [List.flatten_cons, List.flatten_nil, List.length_append, List.length_nil]; omega
  refine o_call F42 rfl rfl rfl rfl (rn_call (args1 (F42.get rfl)) rfl (by kernel_rfl)) (concat_at [d, d2] _ (RBss.two b37 (Fl.blk (S := fun b => b = g2) (k := 1) (n := 32) (c := 32) b43 (by rw [byteVals_len hd, Nat.mul_one]) (byteVals_one _) (by omega) rfl) (Fl.blk (S := fun b => b = g10) (k := 1) (n := 32) (c := 32) b44 (by rw [byteVals_len hd2, Nat.mul_one]) (byteVals_one _) (by omega) rfl)) hn51 (by omega)) ?_
  rintro _ w52 ⟨A46, c47, rfl, hf48, hx53⟩
  rw [show ([d, d2]).flatten = d ++ d2 from by simp] at hf48
  refine ⟨_, rfl, ?_⟩; intro a54 F55; clear F42; have z56 := hx53.size
  have b57 := (b43.ext hx53)
  have b58 := (b44.ext hx53)
  have b59 := (b45.ext hx53)
  refine ⟨fun _ _ => ⟨(((Ext.refl w27).trans hx38).trans hx53), b57, b58, b59⟩, ?_⟩
  refine any_one (i := 4) (by decide +kernel) rfl ?_
  refine o_call F55 rfl rfl rfl rfl (rn_call (args2 rfl (F55.get rfl)) rfl (by kernel_rfl)) (tagged_at ([110, 111, 100, 101]) (v := (.slice A46 (32 + 32) c47)) (n := (32 + 32)) (d ++ d2) _ hf48 (hG.ext (((((((Ext.refl w).trans hx5).trans hx13).trans hx21).trans hx28).trans hx38).trans hx53)) (by simp <;> omega) (by omega)) ?_
  rintro _ w60 ⟨rfl, hx61⟩
  refine ⟨_, rfl, ?_⟩; intro a62 F63; clear F55; have z64 := hx61.size
  have b65 := (b57.ext hx61)
  have b66 := (b58.ext hx61)
  have b67 := (b59.ext hx61)
  refine ⟨fun _ _ => ⟨((((Ext.refl w27).trans hx38).trans hx53).trans hx61), b65, b66, b67⟩, ?_⟩
  refine any_one (i := 5) (by decide +kernel) rfl ?_
  refine o_store (cells := (byteVals (tagged ([110, 111, 100, 101]) (d ++ d2)))) F63 rfl rfl rfl rfl (F63.get rfl) (F63.get rfl) b67 (inf37.trans (congrArg some (byteVals_len (tagged_len _ _)).symm)) ((byteVals_len (show List.length (List.replicate 32 0) = _ from List.length_replicate)).trans (byteVals_len (tagged_len _ _)).symm) (byteVals_one _) ?_
  intro w68 b69 hg70; have z71 := hg70.size
  refine ⟨fun h => absurd h (by decide), ?_⟩
  refine any_nil (by decide +kernel) ?_
  refine hK26 _ _ ?_
  clear hK26
  have F72 := (((((F63.nil.c F63 4 rfl).c F63 3 rfl).c F63 2 rfl).c F63 1 rfl).c F63 0 rfl)
  clear F63
  refine wp_ret ?_
  refine retC F72 rfl rfl b69 Tryd.underlying37 rfl (inf37.trans (congrArg some (byteVals_len (tagged_len _ _)).symm)) ?_
  exact ⟨rfl, (((((((((Ext.refl w).trans hx5).trans hx13).trans hx21).trans hx28).trans hx38).trans hx53).trans hx61).grownN hg70 (by omega))⟩

end Go.Proofs.YtmjgjopbeokajaaDoor

namespace Go.Proofs.YtmjgjopbeokajaaDoor
open Go.RowKit

variable {S S' : Nat → Prop}

theorem tree_nil' {l : List (List UInt8)} (h : l.length = 0) : treeD l = tagged [101, 109, 112, 116, 121] [] := by rw [List.eq_nil_of_length_eq_zero h, treeD, tree_nil]; rfl
theorem tree_one' {l : List (List UInt8)} (h : l.length = 1) : treeD l = leafD (l.getD 0 []) := by rw [treeD, tree_one _ _ _ h]
theorem tree_two' {l : List (List UInt8)} (h : 2 ≤ l.length) : treeD l = nodeD (treeD (l.take (half l.length))) (treeD (l.drop (half l.length))) := by rw [treeD, tree_eq _ _ _ h]; rfl
set_option maxRecDepth 100000 in
set_option maxHeartbeats 1000000 in
theorem tree_ind : ∀ (N : Nat) (l : List (List UInt8)) (S : Nat → Prop) (w : World) {n : Nat} (v : Value) (_ : All32 l) (_ : Fl S w 32 v n (digVals l)) (_ : Glob w) (_ : l.length < N),
    Calls Tryd.prog 34 #[v] w (fun e w' => e = .returned (.agg (byteVals (treeD l)).toArray) ∧ Ext w w') := by
  intro N
  induction N with
  | zero => intro l S w n v _ _ _ h; omega
  | succ N ih0 =>
  intro l S w n v h32 hf0 hG hN
  have ih : ∀ (l' : List (List UInt8)) (w' : World) {n : Nat} {S : Nat → Prop} (v' : Value) (_ : All32 l') (_ : Fl S w' 32 v' n (digVals l')) (_ : Glob w') (_ : l'.length < l.length), Calls Tryd.prog 34 #[v'] w' (fun e w'' => e = .returned (.agg (byteVals (treeD l')).toArray) ∧ Ext w' w'') := fun l' w' n S v' a b c d => ih0 l' S w' v' a b c (by omega)
  clear ih0
  have hm := Fl.dlen hf0 h32
  subst hm
  obtain ⟨A, c, rfl, hcc0⟩ := hf0.form
  have hf := hf0
  have hc : Fl (Clip S w) w 32 (.slice A l.length c) l.length (digVals l) := hf.clip
  have hcc := (Fl.cel hc).2.1
  refine calls_enter (l := [(.slice A l.length c)]) Tryd.func34 rfl rfl rfl (fun aA hF => ?_)
  refine wp_seq_k (fun K1 hK1 => ?_)
  refine wp_region_lit ?_
  refine wpl_op (i := 0) rfl (o_new (fun g => (.pointer (some ⟨g, 0, none⟩))) (byteVals (List.replicate 32 0)) 37 hF rfl rfl rfl rfl (by kernel_rfl) ?_)
  intro g2 w3 a8 F9 z6 z7 b4 hx5; clear hF
  refine wpList_nil ?_
  refine hK1 _ _ ?_
  clear hK1
  refine wp_seq_k (fun K10 hK10 => ?_)
  refine wp_seq_k (fun K11 hK11 => ?_)
  refine wp_region_lit ?_
  refine qv 0 (.slice A l.length c) F9 rfl (rn_move (F9.get rfl)) fun _ F13 => ?_; clear F9
  refine qv 1 (.int .i64 (l.length : Nat)) F13 rfl (rn_len_slice Tryd.underlying28 (F13.get rfl)) fun _ F15 => ?_; clear F13
  refine wpList_nil ?_
  refine hK11 _ _ ?_
  clear hK11
  refine wp_block ?_
  refine wp_seq_k (fun K16 hK16 => ?_)
  refine wp_region_lit ?_
  refine qv 0 (.bool (decide (((l.length : Nat) : Int) = (0 : Int)))) F15 rfl (rn_eql (F15.get rfl) rfl) fun _ F18 => ?_; clear F15
  refine qv 1 (.bool (decide (((l.length : Nat) : Int) = (0 : Int)))) F18 rfl (rn_assign (F18.get rfl)) fun _ F20 => ?_; clear F18
  refine wpList_nil ?_
  refine hK16 _ _ ?_
  clear hK16
  by_cases hc21 : ((l.length : Nat) : Int) = (0 : Int)
  · skip
    refine wp_cond_true (c_true F20 rfl (decide_eq_true hc21)) ?_
    refine wp_seq_k (fun K22 hK22 => ?_)
    refine wp_region_lit ?_
    refine wpl_op (i := 0) rfl (o_call F20 rfl rfl rfl rfl (rn_call (args2 rfl rfl) rfl (by kernel_rfl)) (tagged_at ([101, 109, 112, 116, 121]) (v := (.slice none 0 0)) (n := 0) ([]) _ (show Fl (fun _ => False) w3 1 (.slice none 0 0) 0 (byteVals []) from Fl.nil _) (hG.ext ((Ext.refl w).trans hx5)) (by simp <;> omega) (by omega)) ?_)
    rintro _ w23 ⟨rfl, hx24⟩
    refine ⟨_, rfl, ?_⟩; intro a25 F26; clear F20; have z27 := hx24.size
    have b31 := (b4.ext hx24)
    refine wpl_op (i := 1) rfl (o_store (cells := (byteVals (tagged ([101, 109, 112, 116, 121]) ([])))) F26 rfl rfl rfl rfl (F26.get rfl) (F26.get rfl) b31 (inf37.trans (congrArg some (byteVals_len (tagged_len _ _)).symm)) ((byteVals_len (show List.length (List.replicate 32 0) = _ from List.length_replicate)).trans (byteVals_len (tagged_len _ _)).symm) (byteVals_one _) ?_)
    intro w28 b29 hg30; have z32 := hg30.size
    refine wpList_nil ?_
    refine hK22 _ _ ?_
    clear hK22
    refine wp_ret ?_
    refine ret_block ?_
    refine ret_then ?_
    refine retC F26 rfl rfl b29 Tryd.underlying37 rfl (inf37.trans (congrArg some (byteVals_len (tagged_len _ _)).symm)) ?_
    exact ⟨by rw [tree_nil' (l := l) (by omega)], ((((Ext.refl w).trans hx5).trans hx24).grownN hg30 (by omega))⟩
  · skip
    refine wp_cond_false (c_false F20 rfl (decide_eq_false hc21)) ?_
    refine wp_seq_k (fun K33 hK33 => ?_)
    refine wp_region_lit ?_
    refine qv 0 (.bool (decide (((l.length : Nat) : Int) = (1 : Int)))) F20 rfl (rn_eql (F20.get rfl) rfl) fun _ F35 => ?_; clear F20
    refine qv 1 (.bool (decide (((l.length : Nat) : Int) = (1 : Int)))) F35 rfl (rn_assign (F35.get rfl)) fun _ F37 => ?_; clear F35
    refine wpList_nil ?_
    refine hK33 _ _ ?_
    clear hK33
    by_cases hc38 : ((l.length : Nat) : Int) = (1 : Int)
    · skip
      refine wp_cond_true (c_true F37 rfl (decide_eq_true hc38)) ?_
      refine wp_seq_k (fun K39 hK39 => ?_)
      refine wp_region_lit ?_
      refine qv 0 (.slice A l.length c) F37 rfl (rn_move (F37.get rfl)) fun _ F41 => ?_; clear F37
      have d45 := (hc.ext hx5)
      obtain ⟨b42, o43, hA44, -⟩ := Fl.at d45 (by omega)
      refine qv 1 (.pointer (some ⟨b42, o43 + 0 * 32, none⟩)) F41 rfl (rn_indexE Tryd.underlying28 inf37 ((F41.get rfl).trans (by rw [hA44])) rfl (by omega : (0 : Int) ≤ 0) (by omega : (0 : Int) < ((l.length : Nat) : Int)) (by omega)) fun _ F47 => ?_; clear F41
      refine qv 2 (.agg (byteVals (l.getD 0 [])).toArray) F47 rfl (rn_loadN (cs := byteVals (l.getD 0 [])) (F47.get rfl) Tryd.underlying37 rfl (inf37.trans (congrArg some (byteVals_len (dig_len h32 0 (by omega))).symm)) (Fl.digAt d45 hA44 h32 (by omega))) fun _ F49 => ?_; clear F47
      refine wpl_op (i := 3) rfl (o_call F49 rfl rfl rfl rfl (rn_call (args1 (F49.get rfl)) rfl (by kernel_rfl)) (leaf_any (l.getD 0 []) _ (dig_len h32 0 (by omega)) (hG.ext ((Ext.refl w).trans hx5))) ?_)
      rintro _ w50 ⟨rfl, hx51⟩
      refine ⟨_, rfl, ?_⟩; intro a52 F53; clear F49; have z54 := hx51.size
      have b58 := (b4.ext hx51)
      refine wpl_op (i := 4) rfl (o_store (cells := (byteVals (leafD (l.getD 0 [])))) F53 rfl rfl rfl rfl (F53.get rfl) (F53.get rfl) b58 (inf37.trans (congrArg some (byteVals_len (leafD_len _)).symm)) ((byteVals_len (show List.length (List.replicate 32 0) = _ from List.length_replicate)).trans (byteVals_len (leafD_len _)).symm) (byteVals_one _) ?_)
      intro w55 b56 hg57; have z59 := hg57.size
      refine wpList_nil ?_
      refine hK39 _ _ ?_
      clear hK39
      have F60 := (((((F53.nil.c F53 9 rfl).c F53 6 rfl).c F53 5 rfl).c F53 2 rfl).c F53 0 rfl)
      clear F53
      refine wp_ret ?_
      refine ret_block ?_
      refine ret_then ?_
      refine retC F60 rfl rfl b56 Tryd.underlying37 rfl (inf37.trans (congrArg some (byteVals_len (leafD_len _)).symm)) ?_
      exact ⟨by rw [tree_one' (l := l) (by omega)], ((((Ext.refl w).trans hx5).trans hx51).grownN hg57 (by omega))⟩
    · skip
      refine wp_cond_false (c_false F37 rfl (decide_eq_false hc38)) ?_
      refine wp_skip ?_
      refine hK10 _ _ ?_
      clear hK10
      refine wp_seq_k (fun K61 hK61 => ?_)
      refine wp_region_lit ?_
      refine qv 0 (.slice A l.length c) F37 rfl (rn_move (F37.get rfl)) fun _ F63 => ?_; clear F37
      refine qv 1 (.int .i64 (l.length : Nat)) F63 rfl (rn_len_slice Tryd.underlying28 (F63.get rfl)) fun _ F65 => ?_; clear F63
      have z66 := half_lt (n := l.length) (by omega); have z67 := half_pos l.length
      refine wpl_op (i := 2) rfl (o_call F65 rfl rfl rfl rfl (rn_call (args1 (F65.get rfl)) rfl (by kernel_rfl)) (half_any l.length _ (by omega) (by omega)) ?_)
      rintro _ w68 ⟨rfl, hx69⟩
      refine ⟨_, rfl, ?_⟩; intro a70 F71; clear F65; have z72 := hx69.size
      refine qv 3 (.int .i64 (half l.length : Nat)) F71 rfl (rn_assign (F71.get rfl)) fun _ F74 => ?_; clear F71
      refine wpList_nil ?_
      refine hK61 _ _ ?_
      clear hK61
      have F75 := ((((((F74.nil.c F74 3 rfl).c F74 9 rfl).c F74 6 rfl).c F74 5 rfl).c F74 2 rfl).c F74 0 rfl)
      clear F74
      refine wp_seq_k (fun K76 hK76 => ?_)
      have hx78 : ∃ W, w68.drew = W ∧ Ext w68 W := ⟨_, rfl, (Ext.refl _).drew⟩
      obtain ⟨w77, e79, hx78⟩ := hx78
      have z80 := hx78.size
      refine any_start (fun W => Ext w77 W ∧ Blk W g2 37 (byteVals (List.replicate 32 0))) (fun i => i == 9) 10 #[false, false, false, false, false, false, false, false, false, false] rfl rfl rfl ?_
      rw [e79]; clear e79
      refine qp 0 (.slice A l.length c) F75 rfl rfl (fun W => (rn_move (F75.get rfl))) fun _ F82 => ?_; clear F75
      refine qp 1 (.int .i64 (half l.length : Nat)) F82 rfl rfl (fun W => (rn_move (F82.get rfl))) fun _ F84 => ?_; clear F82
      refine qp 2 (.slice A (half l.length) c) F84 rfl rfl (fun W => (rn_sliceHi Tryd.underlying28 inf37 (F84.get rfl) (F84.get rfl) (by omega : (0 : Int) ≤ (half l.length : Nat)) (by omega : ((half l.length : Nat) : Int) ≤ ((c : Nat) : Int)))) fun _ F86 => ?_; clear F84
      refine qp 4 (.slice A l.length c) F86 rfl rfl (fun W => (rn_move (F86.get rfl))) fun _ F88 => ?_; clear F86
      refine qp 5 (.int .i64 (half l.length : Nat)) F88 rfl rfl (fun W => (rn_move (F88.get rfl))) fun _ F90 => ?_; clear F88
      have d94 := (((hc.ext hx5).ext hx69).ext hx78)
      obtain ⟨b91, o92, hA93, -⟩ := Fl.at d94 (by omega)
      refine qp 6 (.slice (some ⟨b91, o92 + (half l.length) * 32, none⟩) (l.length - (half l.length)) (c - (half l.length))) F90 rfl rfl (fun W => (rn_sliceLo (l := (half l.length)) Tryd.underlying28 inf37 ((F90.get rfl).trans (by rw [hA93])) (F90.get rfl) (by omega : (half l.length) ≤ l.length) (by omega : (half l.length) < c))) fun _ F96 => ?_; clear F90
      refine any_one (i := 3) (by decide +kernel) rfl ?_
      have hf97 := (Fl.take_eq (j := (half l.length)) d94 (by omega) (digVals_take h32 _))
      have z98 := Fl.dlen hf97 (All32.take h32 _)
      refine o_call F96 rfl rfl rfl rfl (rn_call (args1 (F96.get rfl)) rfl (by kernel_rfl)) (ih (l.take (half l.length)) _ (n := (half l.length)) (.slice A (half l.length) c) (All32.take h32 _) hf97 (hG.ext ((((Ext.refl w).trans hx5).trans hx69).trans hx78)) (by omega)) ?_
      rintro _ w99 ⟨rfl, hx100⟩
      refine ⟨_, rfl, ?_⟩; intro a101 F102; clear F96; have z103 := hx100.size
      have b104 := (((b4.ext hx69).ext hx78).ext hx100)
      refine ⟨fun _ _ => ⟨((Ext.refl w77).trans hx100), b104⟩, ?_⟩
      refine any_one (i := 7) (by decide +kernel) rfl ?_
      have d105 := ((((hc.ext hx5).ext hx69).ext hx78).ext hx100)
      have hf106 := (Fl.drop_eq (j := (half l.length)) d105 hA93 (by omega) (digVals_drop h32 _))
      have z107 := Fl.dlen hf106 (All32.drop h32 _)
      refine o_call F102 rfl rfl rfl rfl (rn_call (args1 (F102.get rfl)) rfl (by kernel_rfl)) (ih (l.drop (half l.length)) _ (n := l.length - (half l.length)) (.slice (some ⟨b91, o92 + (half l.length) * 32, none⟩) (l.length - (half l.length)) (c - (half l.length))) (All32.drop h32 _) hf106 (hG.ext (((((Ext.refl w).trans hx5).trans hx69).trans hx78).trans hx100)) (by omega)) ?_
      rintro _ w108 ⟨rfl, hx109⟩
      refine ⟨_, rfl, ?_⟩; intro a110 F111; clear F102; have z112 := hx109.size
      have b113 := (b104.ext hx109)
      refine ⟨fun _ _ => ⟨(((Ext.refl w77).trans hx100).trans hx109), b113⟩, ?_⟩
      refine any_one (i := 8) (by decide +kernel) rfl ?_
      refine o_call F111 rfl rfl rfl rfl (rn_call (args2 (F111.get rfl) (F111.get rfl)) rfl (by kernel_rfl)) (node_any (treeD (l.take (half l.length))) (treeD (l.drop (half l.length))) _ (treeD_len _) (treeD_len _) (hG.ext ((((((Ext.refl w).trans hx5).trans hx69).trans hx78).trans hx100).trans hx109))) ?_
      rintro _ w114 ⟨rfl, hx115⟩
      refine ⟨_, rfl, ?_⟩; intro a116 F117; clear F111; have z118 := hx115.size
      have b119 := (b113.ext hx115)
      refine ⟨fun _ _ => ⟨((((Ext.refl w77).trans hx100).trans hx109).trans hx115), b119⟩, ?_⟩
      refine any_one (i := 9) (by decide +kernel) rfl ?_
      refine o_store (cells := (byteVals (nodeD (treeD (l.take (half l.length))) (treeD (l.drop (half l.length)))))) F117 rfl rfl rfl rfl (F117.get rfl) (F117.get rfl) b119 (inf37.trans (congrArg some (byteVals_len (nodeD_len _ _)).symm)) ((byteVals_len (show List.length (List.replicate 32 0) = _ from List.length_replicate)).trans (byteVals_len (nodeD_len _ _)).symm) (byteVals_one _) ?_
      intro w120 b121 hg122; have z123 := hg122.size
      refine ⟨fun h => absurd h (by decide), ?_⟩
      refine any_nil (by decide +kernel) ?_
      refine hK76 _ _ ?_
      clear hK76
      have F124 := ((((((F117.nil.c F117 3 rfl).c F117 9 rfl).c F117 6 rfl).c F117 5 rfl).c F117 2 rfl).c F117 0 rfl)
      clear F117
      refine wp_ret ?_
      refine retC F124 rfl rfl b121 Tryd.underlying37 rfl (inf37.trans (congrArg some (byteVals_len (nodeD_len _ _)).symm)) ?_
      exact ⟨by rw [tree_two' (l := l) (by omega)], ((((((((Ext.refl w).trans hx5).trans hx69).trans hx78).trans hx100).trans hx109).trans hx115).grownN hg122 (by omega))⟩

theorem tree_at (l : List (List UInt8)) (w : World) {n : Nat} {v : Value} (h32 : All32 l) (hf : Fl S w 32 v n (digVals l)) (hG : Glob w) : Calls Tryd.prog 34 #[v] w (fun e w' => e = .returned (.agg (byteVals (treeD l)).toArray) ∧ Ext w w') := tree_ind _ l S w v h32 hf hG (Nat.lt_succ_self _)

set_option maxRecDepth 100000 in
set_option maxHeartbeats 1000000 in
theorem rev_any (g n c base : Nat) (l : List (List UInt8)) (w : World) (h32 : All32 l) (hr : w.ownsRow base 37 32 (.slice (some ⟨g, 0, none⟩) n c) n (digVals l)) :
    Calls Tryd.prog 54 #[.slice (some ⟨g, 0, none⟩) n c] w (fun e w' => e = .returned (.tuple #[]) ∧ w'.ownsRow base 37 32 (.slice (some ⟨g, 0, none⟩) n c) n (digVals l.reverse) ∧ w.grownBy w' (some g)) := by
  have hln := Fl.dlen (Fl.own (S := fun _ => True) hr (fun _ _ => trivial) (digVals_one _)) h32
  have hgg := own_lt hr
  refine calls_enter (l := [(.slice (some ⟨g, 0, none⟩) n c)]) Tryd.func54 rfl rfl rfl (fun aA hF => ?_)
  refine wp_seq_k (fun K1 hK1 => ?_)
  refine wp_region_lit ?_
  refine qv 0 (.slice (some ⟨g, 0, none⟩) n c) hF rfl (rn_move (hF.get rfl)) fun _ F3 => ?_; clear hF
  refine qv 1 (.int .i64 (n : Nat)) F3 rfl (rn_len_slice Tryd.underlying28 (F3.get rfl)) fun _ F5 => ?_; clear F3
  refine qv 2 (.int .i64 ((n : Nat) - 1)) F5 rfl (rn_sub (F5.get rfl) rfl (by omega) (by omega)) fun _ F7 => ?_; clear F5
  refine qv 3 (.int .i64 0) F7 rfl (rn_assign rfl) fun _ F9 => ?_; clear F7
  refine qv 4 (.int .i64 ((n : Nat) - 1)) F9 rfl (rn_assign (F9.get rfl)) fun _ F11 => ?_; clear F9
  refine wpList_nil ?_
  refine hK1 _ _ ?_
  clear hK1
  refine wp_block ?_
  refine wp_loop (fun a' W => ∃ (i1 : Nat) (j1 : Int) (lk : List (List UInt8)), Sl 28 [(0, (.slice (some ⟨g, 0, none⟩) n c)), (2, (.int .i64 (i1 : Nat))), (3, (.int .i64 j1))] a' ∧ (i1 : Int) + j1 + 1 = n ∧ RevInv l lk i1 ∧ i1 ≤ n + 1 ∧ w.grownBy W (some g) ∧ W.ownsRow base 37 32 (.slice (some ⟨g, 0, none⟩) n c) n (digVals lk) ∧ base ≤ W.heap.size ∧ w.heap.size ≤ W.heap.size) (fun a' _ => n + 2 - (intOf (a'.eval (.tmp 2))).toNat) ⟨0, ((n : Int) - 1), l, (((F11.nil.cons (q_get F11 (t := 3) rfl (by first | rfl | (congr 1; omega) | (congr 1; done)))).cons (q_get F11 (t := 2) rfl (by first | rfl | (congr 1; omega) | (congr 1; done)))).cons (q_get F11 (t := 0) rfl rfl)), (by omega), (RevInv.start l), (by omega), (grow_refl w g), hr, (by omega), (Nat.le_refl _)⟩ ?_
  clear F11
  rintro a12 w13 ⟨i1, j1, lk, F14, hp16, hp17, hp18, hx15, r19, hf20, hf21⟩
  have hL22 := F14
  have z23 := hx15.size
  have z24 := own_lt r19
  have hk32 := hp17.all32 h32
  have hlk := hp17.1
  refine wp_seq_k (fun K25 hK25 => ?_)
  refine wp_seq_k (fun K26 hK26 => ?_)
  refine wp_region_lit ?_
  refine qv 0 (.int .i64 (i1 : Nat)) F14 rfl (rn_move (F14.get rfl)) fun _ F28 => ?_; clear F14
  refine qv 1 (.int .i64 j1) F28 rfl (rn_move (F28.get rfl)) fun _ F30 => ?_; clear F28
  refine qv 2 (.bool (decide (((i1 : Nat) : Int) < (j1 : Int)))) F30 rfl (rn_lss (F30.get rfl) (F30.get rfl)) fun _ F32 => ?_; clear F30
  refine wpList_nil ?_
  refine hK26 _ _ ?_
  clear hK26
  by_cases hc33 : ((i1 : Nat) : Int) < (j1 : Int)
  · skip
    refine wp_cond_true (c_true F32 rfl (decide_eq_true hc33)) ?_
    refine wp_skip ?_
    refine hK25 _ _ ?_
    clear hK25
    refine wp_seq_k (fun K34 hK34 => ?_)
    refine wp_block ?_
    have hx36 : ∃ W, w13.drew = W ∧ Ext w13 W := ⟨_, rfl, (Ext.refl _).drew⟩
    obtain ⟨w35, e37, hx36⟩ := hx36
    have z38 := hx36.size
    refine any_start (fun W => Ext w35 W) (fun i => i == 13 || i == 15) 16 #[false, false, false, false, false, false, false, false, false, false, false, false, false, false, false, false] rfl rfl rfl ?_
    rw [e37]; clear e37
    refine qp 0 (.slice (some ⟨g, 0, none⟩) n c) F32 rfl rfl (fun W => (rn_move (F32.get rfl))) fun _ F40 => ?_; clear F32
    refine qp 1 (.int .i64 (i1 : Nat)) F40 rfl rfl (fun W => (rn_move (F40.get rfl))) fun _ F42 => ?_; clear F40
    refine qp 2 (.slice (some ⟨g, 0, none⟩) n c) F42 rfl rfl (fun W => (rn_move (F42.get rfl))) fun _ F44 => ?_; clear F42
    refine qp 3 (.int .i64 j1) F44 rfl rfl (fun W => (rn_move (F44.get rfl))) fun _ F46 => ?_; clear F44
    refine qp 4 (.slice (some ⟨g, 0, none⟩) n c) F46 rfl rfl (fun W => (rn_move (F46.get rfl))) fun _ F48 => ?_; clear F46
    refine qp 5 (.int .i64 j1) F48 rfl rfl (fun W => (rn_move (F48.get rfl))) fun _ F50 => ?_; clear F48
    refine qp 6 (.pointer (some ⟨g, 0 + (j1 : Int).toNat * 32, none⟩)) F50 rfl rfl (fun W => (rn_indexE Tryd.underlying28 inf37 (F50.get rfl) (F50.get rfl) (by omega : (0 : Int) ≤ j1) (by omega : (j1 : Int) < ((n : Nat) : Int)) (by omega))) fun _ F52 => ?_; clear F50
    have hS53 : Ext w35 w35 := (Ext.refl w35)
    have r54 := (own_ext r19 hx36)
    have hf55 := (Fl.own (S := fun b => base ≤ b) r54 (fun b hb => hb) (digVals_one _))
    refine qs 7 (.agg (byteVals (lk.getD ((j1 : Int).toNat) [])).toArray) F52 rfl rfl hS53 (fun W hW => (rn_loadN (cs := byteVals (lk.getD ((j1 : Int).toNat) [])) (F52.get rfl) Tryd.underlying37 rfl (inf37.trans (congrArg some (byteVals_len (dig_len hk32 ((j1 : Int).toNat) (by have := hlk; omega))).symm)) (Fl.digAt (hf55.ext hW) rfl hk32 (by have := hlk; omega)))) fun _ F57 => ?_; clear F52
    refine qp 8 (.slice (some ⟨g, 0, none⟩) n c) F57 rfl rfl (fun W => (rn_move (F57.get rfl))) fun _ F59 => ?_; clear F57
    refine qp 9 (.int .i64 (i1 : Nat)) F59 rfl rfl (fun W => (rn_move (F59.get rfl))) fun _ F61 => ?_; clear F59
    refine qp 10 (.pointer (some ⟨g, 0 + i1 * 32, none⟩)) F61 rfl rfl (fun W => (rn_indexE Tryd.underlying28 inf37 (F61.get rfl) (F61.get rfl) (by omega : (0 : Int) ≤ (i1 : Nat)) (by omega : ((i1 : Nat) : Int) < ((n : Nat) : Int)) (by omega))) fun _ F63 => ?_; clear F61
    have hf64 := (Fl.own (S := fun b => base ≤ b) r54 (fun b hb => hb) (digVals_one _))
    refine qs 11 (.agg (byteVals (lk.getD i1 [])).toArray) F63 rfl rfl hS53 (fun W hW => (rn_loadN (cs := byteVals (lk.getD i1 [])) (F63.get rfl) Tryd.underlying37 rfl (inf37.trans (congrArg some (byteVals_len (dig_len hk32 i1 (by have := hlk; omega))).symm)) (Fl.digAt (hf64.ext hW) rfl hk32 (by have := hlk; omega)))) fun _ F66 => ?_; clear F63
    refine qp 12 (.pointer (some ⟨g, 0 + i1 * 32, none⟩)) F66 rfl rfl (fun W => (rn_indexE Tryd.underlying28 inf37 (F66.get rfl) (F66.get rfl) (by omega : (0 : Int) ≤ (i1 : Nat)) (by omega : ((i1 : Nat) : Int) < ((n : Nat) : Int)) (by omega))) fun _ F68 => ?_; clear F66
    refine any_one (i := 13) (by decide +kernel) rfl ?_
    have hf72 := (Fl.own (S := fun b => base ≤ b) r54 (fun b hb => hb) (digVals_one _))
    refine o_storeRowK (j := i1) (k := 32) (cells := byteVals (lk.getD ((j1 : Int).toNat) [])) (zs := digVals (lk.set i1 (lk.getD ((j1 : Int).toNat) []))) F68 rfl rfl rfl rfl (F68.get rfl) (F68.get rfl) r54 (inf37.trans (congrArg some (byteVals_len (dig_len hk32 ((j1 : Int).toNat) (by have := hlk; omega))).symm)) (by omega) (by omega) (byteVals_len (dig_len hk32 ((j1 : Int).toNat) (by have := hlk; omega))) (byteVals_one _) (digVals_set hk32 (by have := Fl.dlen hf72 hk32; omega) (dig_len hk32 ((j1 : Int).toNat) (by have := hlk; omega))) ?_
    intro w69 r70 hg71; have z73 := hg71.size
    refine ⟨fun h => absurd h (by decide), ?_⟩
    refine qp 14 (.pointer (some ⟨g, 0 + (j1 : Int).toNat * 32, none⟩)) F68 rfl rfl (fun W => (rn_indexE Tryd.underlying28 inf37 (F68.get rfl) (F68.get rfl) (by omega : (0 : Int) ≤ j1) (by omega : (j1 : Int) < ((n : Nat) : Int)) (by omega))) fun _ F75 => ?_; clear F68
    refine any_one (i := 15) (by decide +kernel) rfl ?_
    have hf79 := (Fl.own (S := fun b => base ≤ b) r70 (fun b hb => hb) (digVals_one _))
    refine o_storeRowK (j := (j1 : Int).toNat) (k := 32) (cells := byteVals (lk.getD i1 [])) (zs := digVals ((lk.set i1 (lk.getD ((j1 : Int).toNat) [])).set ((j1 : Int).toNat) (lk.getD i1 []))) F75 rfl rfl rfl rfl (F75.get rfl) (F75.get rfl) r70 (inf37.trans (congrArg some (byteVals_len (dig_len hk32 i1 (by have := hlk; omega))).symm)) (by omega) (by omega) (byteVals_len (dig_len hk32 i1 (by have := hlk; omega))) (byteVals_one _) (digVals_set (All32.set hk32 (dig_len hk32 ((j1 : Int).toNat) (by have := hlk; omega))) (by have := Fl.dlen hf79 (All32.set hk32 (dig_len hk32 ((j1 : Int).toNat) (by have := hlk; omega))); omega) (dig_len hk32 i1 (by have := hlk; omega))) ?_
    intro w76 r77 hg78; have z80 := hg78.size
    refine ⟨fun h => absurd h (by decide), ?_⟩
    refine any_nil (by decide +kernel) ?_
    refine hK34 _ _ ?_
    clear hK34
    have F81 := ((((F75.nil.c F75 9 rfl).c F75 3 rfl).c F75 2 rfl).c F75 0 rfl)
    clear F75
    refine wp_region_lit ?_
    refine qv 0 (.int .i64 (i1 : Nat)) F81 rfl (rn_move (F81.get rfl)) fun _ F83 => ?_; clear F81
    refine qv 1 (.int .i64 (i1 + 1 : Nat)) F83 rfl (rn_addN (a := i1) (b := 1) (F83.get rfl) rfl (by omega)) fun _ F85 => ?_; clear F83
    refine qv 2 (.int .i64 j1) F85 rfl (rn_move (F85.get rfl)) fun _ F87 => ?_; clear F85
    refine qv 3 (.int .i64 (j1 - 1)) F87 rfl (rn_sub (F87.get rfl) rfl (by omega) (by omega)) fun _ F89 => ?_; clear F87
    refine qv 4 (.int .i64 (i1 + 1 : Nat)) F89 rfl (rn_assign (F89.get rfl)) fun _ F91 => ?_; clear F89
    refine qv 5 (.int .i64 (j1 - 1)) F91 rfl (rn_assign (F91.get rfl)) fun _ F93 => ?_; clear F91
    refine wpList_nil ?_
    refine ⟨⟨(i1 + 1), (j1 - 1), (lk.set i1 (lk.getD ((j1 : Int).toNat) [])).set ((j1 : Int).toNat) (lk.getD i1 []), (((F93.nil.cons (q_get F93 (t := 3) rfl (by first | rfl | (congr 1; omega) | (congr 1; done)))).cons (q_get F93 (t := 2) rfl (by first | rfl | (congr 1; omega) | (congr 1; done)))).cons (q_get F93 (t := 0) rfl rfl)), (by omega), (RevInv.step hp17 (by omega) (by omega)), (by omega), (grow_set (grow_set (grow_ext (grow_set (grow_refl w g) hx15) hx36) hg71) hg78), r77, (by omega), (by omega)⟩, ?_⟩
    rw [F93.get (t := 2) rfl, hL22.get (t := 2) rfl]; simp [intOf] <;> omega
  · skip
    refine wp_cond_false (c_false F32 rfl (decide_eq_false hc33)) ?_
    refine wp_exit ?_
    refine exit_then ?_
    refine exit_then ?_
    refine exit_here ?_
    refine ret0 F32 rfl ?_
    have hdone := RevInv.done hp17 (by omega)
    exact ⟨rfl, hdone ▸ r19, (grow_set (grow_refl w g) hx15)⟩

set_option maxRecDepth 100000 in
set_option maxHeartbeats 1000000 in
theorem rev_nil (w : World) :
    Calls Tryd.prog 54 #[.slice none 0 0] w (fun e w' => e = .returned (.tuple #[]) ∧ Ext w w') := by
  refine calls_enter (l := [(.slice none 0 0)]) Tryd.func54 rfl rfl rfl (fun aA hF => ?_)
  refine wp_seq_k (fun K1 hK1 => ?_)
  refine wp_region_lit ?_
  refine qv 0 (.slice none 0 0) hF rfl (rn_move (hF.get rfl)) fun _ F3 => ?_; clear hF
  refine qv 1 (.int .i64 0) F3 rfl (rn_len_slice Tryd.underlying28 (F3.get rfl)) fun _ F5 => ?_; clear F3
  refine qv 2 (.int .i64 (-1)) F5 rfl (rn_sub (F5.get rfl) rfl (by omega) (by omega)) fun _ F7 => ?_; clear F5
  refine qv 3 (.int .i64 0) F7 rfl (rn_assign rfl) fun _ F9 => ?_; clear F7
  refine qv 4 (.int .i64 (-1)) F9 rfl (rn_assign (F9.get rfl)) fun _ F11 => ?_; clear F9
  refine wpList_nil ?_
  refine hK1 _ _ ?_
  clear hK1
  refine wp_block ?_
  refine wp_loop (fun a' W => Sl 28 [(0, (.slice none 0 0)), (2, (.int .i64 0)), (3, (.int .i64 (-1)))] a' ∧ Ext w W ∧ w.heap.size ≤ W.heap.size) (fun a' _ => 0 - (intOf (a'.eval (.tmp 2))).toNat) ⟨(((F11.nil.cons (q_get F11 (t := 3) rfl (by first | rfl | (congr 1; omega) | (congr 1; done)))).cons (q_get F11 (t := 2) rfl (by first | rfl | (congr 1; omega) | (congr 1; done)))).cons (q_get F11 (t := 0) rfl rfl)), (Ext.refl w), (Nat.le_refl _)⟩ ?_
  clear F11
  rintro a12 w13 ⟨F14, hx15, hf16⟩
  have hL17 := F14
  have z18 := hx15.size
  refine wp_seq_k (fun K19 hK19 => ?_)
  refine wp_seq_k (fun K20 hK20 => ?_)
  refine wp_region_lit ?_
  refine qv 0 (.int .i64 0) F14 rfl (rn_move (F14.get rfl)) fun _ F22 => ?_; clear F14
  refine qv 1 (.int .i64 (-1)) F22 rfl (rn_move (F22.get rfl)) fun _ F24 => ?_; clear F22
  refine qv 2 (.bool false) F24 rfl (rn_lss' (F24.get rfl) (F24.get rfl) (by decide)) fun _ F26 => ?_; clear F24
  refine wpList_nil ?_
  refine hK20 _ _ ?_
  clear hK20
  refine wp_cond_false (c_false F26 rfl rfl) ?_
  refine wp_exit ?_
  refine exit_then ?_
  refine exit_then ?_
  refine exit_here ?_
  refine ret0 F26 rfl ?_
  exact ⟨rfl, ((Ext.refl w).trans hx15)⟩

end Go.Proofs.YtmjgjopbeokajaaDoor

namespace Go.Proofs.YtmjgjopbeokajaaDoor
open Go.RowKit

variable {S S' : Nat → Prop}

theorem rev_at {A : Option Addr} {n c base : Nat} (l : List (List UInt8)) (w : World) (h32 : All32 l) (hr : w.ownsRow base 37 32 (.slice A n c) n (digVals l)) :
    Calls Tryd.prog 54 #[.slice A n c] w (fun e w' => e = .returned (.tuple #[]) ∧ w'.ownsRow base 37 32 (.slice A n c) n (digVals l.reverse) ∧ w.grownBy w' (Value.slice A n c).ownBlock) := by
  rcases hr.2 with ⟨h', h0⟩ | ⟨g, cap, cur, h', _⟩
  · cases h'
    have hl : l = [] := List.eq_nil_of_length_eq_zero ((Fl.dlen (Fl.own (S := fun _ => True) hr (fun _ _ => trivial) (digVals_one _)) h32))
    subst hl
    refine (rev_nil w).mono ?_
    rintro e w' ⟨rfl, hx⟩
    exact ⟨rfl, own_ext hr hx, ⟨hx.below.os, hx.below.tape, hx.below.output, hx.size, fun i hi _ => hx.below.block i hi⟩⟩
  · cases h'
    exact rev_any g n c base l w h32 hr
def pathD (l : List (List UInt8)) (at_ : Nat) : List (List UInt8) := pathL nodeD leafD emptyD l at_
def pathF (l : List (List UInt8)) (at_ : Int) : List (List UInt8) × Int := if at_ < 0 ∨ (l.length : Int) ≤ at_ then ([], 1) else (pathD l at_.toNat, 0)
theorem pathD_first {l l0 p : List (List UInt8)} {a a0 : Nat} (h : 2 ≤ l0.length) (h2 : a0 < half l0.length) (e : pathD l a = pathD l0 a0 ++ p.reverse) : pathD l a = pathD (l0.take (half l0.length)) a0 ++ (p ++ [treeD (l0.drop (half l0.length))]).reverse := by
  rw [e, pathD, path_first _ _ _ h h2]; simp [pathD, treeD]
theorem pathD_second {l l0 p : List (List UInt8)} {a a0 : Nat} (h : 2 ≤ l0.length) (h2 : ¬ a0 < half l0.length) (e : pathD l a = pathD l0 a0 ++ p.reverse) : pathD l a = pathD (l0.drop (half l0.length)) (a0 - half l0.length) ++ (p ++ [treeD (l0.take (half l0.length))]).reverse := by
  rw [e, pathD, path_second _ _ _ h h2]; simp [pathD, treeD]
theorem pathD_done {l l0 p : List (List UInt8)} {a a0 : Nat} (h : l0.length ≤ 1) (e : pathD l a = pathD l0 a0 ++ p.reverse) : p.reverse = pathD l a := by
  rw [e, pathD, path_one _ _ _ h]; rfl

set_option maxRecDepth 100000 in
set_option maxHeartbeats 1000000 in
theorem path_any (A : Option Addr) (c : Nat) (l : List (List UInt8)) (at_ : Int) (w : World) (h32 : All32 l) (hf : Fl S w 32 (.slice A l.length c) l.length (digVals l)) (hG : Glob w) (hbig : l.length ≤ 4398046511104) :
    Calls Tryd.prog 32 #[.slice A l.length c, .int .i64 at_] w (fun e w' => ∃ A' n c', e = .returned (.tuple #[.slice A' n c', .int .i64 (pathF l at_).2]) ∧ Fl (fun b => w.heap.size ≤ b) w' 32 (.slice A' n c') n (digVals (pathF l at_).1) ∧ All32 (pathF l at_).1 ∧ Ext w w') := by
  have hc : Fl (Clip S w) w 32 (.slice A l.length c) l.length (digVals l) := hf.clip
  have hcc := (Fl.cel hc).2.1
  refine calls_enter (l := [(.slice A l.length c), (.int .i64 at_)]) Tryd.func32 rfl rfl rfl (fun aA hF => ?_)
  refine wp_seq_k (fun K1 hK1 => ?_)
  refine wp_region_lit ?_
  refine qv 0 (.slice none 0 0) hF rfl (rn_assign rfl) fun _ F3 => ?_; clear hF
  refine qv 1 (.int .i64 0) F3 rfl (rn_assign rfl) fun _ F5 => ?_; clear F3
  refine wpList_nil ?_
  refine hK1 _ _ ?_
  clear hK1
  refine wp_seq_k (fun K6 hK6 => ?_)
  refine wp_seq_k (fun K7 hK7 => ?_)
  refine wp_region_lit ?_
  refine qv 0 (.int .i64 at_) F5 rfl (rn_move (F5.get rfl)) fun _ F9 => ?_; clear F5
  refine qv 1 (.bool (decide ((at_ : Int) < (0 : Int)))) F9 rfl (rn_lss (F9.get rfl) rfl) fun _ F11 => ?_; clear F9
  refine qv 2 (.bool (decide ((at_ : Int) < (0 : Int)))) F11 rfl (rn_move (F11.get rfl)) fun _ F13 => ?_; clear F11
  by_cases hc14 : (at_ : Int) < (0 : Int)
  · skip
    refine qu 3 F13 (decide_eq_true hc14) fun _ F16 => ?_; clear F13
    refine qu 4 F16 (decide_eq_true hc14) fun _ F18 => ?_; clear F16
    refine qu 5 F18 (decide_eq_true hc14) fun _ F20 => ?_; clear F18
    refine qu 6 F20 (decide_eq_true hc14) fun _ F22 => ?_; clear F20
    refine qv 7 (.bool true) F22 rfl (rn_pickT (c_true F22 rfl (decide_eq_true hc14)) rfl) fun _ F24 => ?_; clear F22
    refine wpList_nil ?_
    refine hK7 _ _ ?_
    clear hK7
    have F25 := (((((F24.nil.c F24 14 rfl).c F24 5 rfl).c F24 4 rfl).c F24 1 rfl).c F24 0 rfl)
    clear F24
    refine wp_cond_true (c_true F25 rfl rfl) ?_
    refine wp_seq_k (fun K26 hK26 => ?_)
    refine wp_region_lit ?_
    refine qv 0 (.slice none 0 0) F25 rfl (rn_assign rfl) fun _ F28 => ?_; clear F25
    refine qv 1 (.int .i64 1) F28 rfl (rn_assign rfl) fun _ F30 => ?_; clear F28
    refine wpList_nil ?_
    refine hK26 _ _ ?_
    clear hK26
    refine wp_ret ?_
    refine ret_then ?_
    refine ret2 F30 rfl rfl rfl ?_
    exact ⟨none, 0, 0, by rw [pathF, if_pos (by omega)], by rw [pathF, if_pos (by omega)]; exact Fl.nil _, by rw [pathF, if_pos (by omega)]; exact All32.nil, (Ext.refl w)⟩
  · skip
    refine qg 3 (.int .i64 at_) F13 (decide_eq_false hc14) (rn_move (F13.get rfl)) fun _ F32 => ?_; clear F13
    refine qg 4 (.slice A l.length c) F32 (decide_eq_false hc14) (rn_move (F32.get rfl)) fun _ F34 => ?_; clear F32
    refine qg 5 (.int .i64 (l.length : Nat)) F34 (decide_eq_false hc14) (rn_len_slice Tryd.underlying28 (F34.get rfl)) fun _ F36 => ?_; clear F34
    refine qg 6 (.bool (decide (((l.length : Nat) : Int) ≤ (at_ : Int)))) F36 (decide_eq_false hc14) (rn_geq (F36.get rfl) (F36.get rfl)) fun _ F38 => ?_; clear F36
    refine qv 7 (.bool (decide (((l.length : Nat) : Int) ≤ (at_ : Int)))) F38 rfl (rn_pickF (c_false F38 rfl (decide_eq_false hc14)) (F38.get rfl)) fun _ F40 => ?_; clear F38
    refine wpList_nil ?_
    refine hK7 _ _ ?_
    clear hK7
    have F41 := (((((F40.nil.c F40 14 rfl).c F40 5 rfl).c F40 4 rfl).c F40 1 rfl).c F40 0 rfl)
    clear F40
    by_cases hc42 : ((l.length : Nat) : Int) ≤ (at_ : Int)
    · skip
      refine wp_cond_true (c_true F41 rfl (decide_eq_true hc42)) ?_
      refine wp_seq_k (fun K43 hK43 => ?_)
      refine wp_region_lit ?_
      refine qv 0 (.slice none 0 0) F41 rfl (rn_assign rfl) fun _ F45 => ?_; clear F41
      refine qv 1 (.int .i64 1) F45 rfl (rn_assign rfl) fun _ F47 => ?_; clear F45
      refine wpList_nil ?_
      refine hK43 _ _ ?_
      clear hK43
      refine wp_ret ?_
      refine ret_then ?_
      refine ret2 F47 rfl rfl rfl ?_
      exact ⟨none, 0, 0, by rw [pathF, if_pos (by omega)], by rw [pathF, if_pos (by omega)]; exact Fl.nil _, by rw [pathF, if_pos (by omega)]; exact All32.nil, (Ext.refl w)⟩
    · skip
      refine wp_cond_false (c_false F41 rfl (decide_eq_false hc42)) ?_
      refine wp_skip ?_
      refine hK6 _ _ ?_
      clear hK6
      refine wp_seq_k (fun K48 hK48 => ?_)
      refine wp_block ?_
      obtain ⟨an, han⟩ : ∃ an : Nat, at_ = (an : Int) := ⟨at_.toNat, by omega⟩
      refine wp_loop (fun a' W => ∃ (A0 : Option Addr) (n0 : Nat) (c0 : Nat) (l0 : List (List UInt8)) (a0 : Nat) (Ap : Option Addr) (np : Nat) (cp : Nat) (p0 : List (List UInt8)), Sl 50 [(0, (.slice A0 n0 c0)), (1, (.int .i64 (a0 : Nat))), (4, (.slice Ap np cp)), (5, (.int .i64 0)), (14, (.bool (decide (((l.length : Nat) : Int) ≤ (at_ : Int)))))] a' ∧ l0.length = n0 ∧ pathD l an = pathD l0 a0 ++ p0.reverse ∧ a0 < n0 ∧ All32 l0 ∧ All32 p0 ∧ np + n0 ≤ l.length ∧ Ext w W ∧ W.ownsRow w.heap.size 37 32 (.slice Ap np cp) np (digVals p0) ∧ Fl (Clip S w) W 32 (.slice A0 n0 c0) n0 (digVals l0) ∧ w.heap.size ≤ W.heap.size ∧ w.heap.size ≤ W.heap.size) (fun a' _ => (sliceLen (a'.eval (.tmp 0)))) ⟨A, l.length, c, l, an, none, 0, 0, [], (((((F41.nil.cons (q_get F41 (t := 14) rfl rfl)).cons (q_get F41 (t := 5) rfl rfl)).cons (q_get F41 (t := 4) rfl (by first | rfl | (congr 1; omega) | (congr 1; done)))).cons (q_get F41 (t := 1) rfl (by first | rfl | (congr 1; omega) | (congr 1; done)))).cons (q_get F41 (t := 0) rfl (by first | rfl | (congr 1; omega) | (congr 1; done)))), rfl, (List.append_nil _).symm, (by omega), h32, All32.nil, (by omega), (Ext.refl w), (own_nil w w.heap.size 37 32), hc, (by omega), (Nat.le_refl _)⟩ ?_
      clear F41
      rintro a49 w50 ⟨A0, n0, c0, l0, a0, Ap, np, cp, p0, F51, hp53, hp54, hp55, hp56, hp57, hp58, hx52, r59, hf60, hf61, hf62⟩
      have hL63 := F51
      have z64 := hx52.size
      have z65 := own_form0 r59
      have hl32 := hp56
      have hp32 := hp57
      have hcc1 := (Fl.cel hf60).2.1
      refine wp_seq_k (fun K66 hK66 => ?_)
      refine wp_seq_k (fun K67 hK67 => ?_)
      refine wp_region_lit ?_
      refine qv 0 (.slice A0 n0 c0) F51 rfl (rn_move (F51.get rfl)) fun _ F69 => ?_; clear F51
      refine qv 1 (.int .i64 (n0 : Nat)) F69 rfl (rn_len_slice Tryd.underlying28 (F69.get rfl)) fun _ F71 => ?_; clear F69
      refine qv 2 (.bool (decide ((1 : Int) < ((n0 : Nat) : Int)))) F71 rfl (rn_gtr (F71.get rfl) rfl) fun _ F73 => ?_; clear F71
      refine wpList_nil ?_
      refine hK67 _ _ ?_
      clear hK67
      by_cases hc74 : (1 : Int) < ((n0 : Nat) : Int)
      · skip
        refine wp_cond_true (c_true F73 rfl (decide_eq_true hc74)) ?_
        refine wp_skip ?_
        refine hK66 _ _ ?_
        clear hK66
        refine wp_block ?_
        refine wp_seq_k (fun K75 hK75 => ?_)
        refine wp_region_lit ?_
        refine qv 0 (.slice A0 n0 c0) F73 rfl (rn_move (F73.get rfl)) fun _ F77 => ?_; clear F73
        refine qv 1 (.int .i64 (n0 : Nat)) F77 rfl (rn_len_slice Tryd.underlying28 (F77.get rfl)) fun _ F79 => ?_; clear F77
        have z80 := half_lt (n := n0) (by omega); have z81 := half_pos n0
        refine wpl_op (i := 2) rfl (o_call F79 rfl rfl rfl rfl (rn_call (args1 (F79.get rfl)) rfl (by kernel_rfl)) (half_any n0 _ (by omega) (by omega)) ?_)
        rintro _ w82 ⟨rfl, hx83⟩
        refine ⟨_, rfl, ?_⟩; intro a84 F85; clear F79; have z86 := hx83.size
        refine qv 3 (.int .i64 (half n0 : Nat)) F85 rfl (rn_assign (F85.get rfl)) fun _ F88 => ?_; clear F85
        refine wpList_nil ?_
        refine hK75 _ _ ?_
        clear hK75
        have F89 := (((((((F88.nil.c F88 6 rfl).c F88 17 rfl).c F88 14 rfl).c F88 5 rfl).c F88 4 rfl).c F88 1 rfl).c F88 0 rfl)
        clear F88
        refine wp_seq_k (fun K90 hK90 => ?_)
        refine wp_region_lit ?_
        refine qv 0 (.int .i64 (a0 : Nat)) F89 rfl (rn_move (F89.get rfl)) fun _ F92 => ?_; clear F89
        refine qv 1 (.int .i64 (half n0 : Nat)) F92 rfl (rn_move (F92.get rfl)) fun _ F94 => ?_; clear F92
        refine qv 2 (.bool (decide (((a0 : Nat) : Int) < ((half n0 : Nat) : Int)))) F94 rfl (rn_lss (F94.get rfl) (F94.get rfl)) fun _ F96 => ?_; clear F94
        refine wpList_nil ?_
        refine hK90 _ _ ?_
        clear hK90
        by_cases hc97 : ((a0 : Nat) : Int) < ((half n0 : Nat) : Int)
        · skip
          refine wp_cond_true (c_true F96 rfl (decide_eq_true hc97)) ?_
          have hx99 : ∃ W, w82.drew = W ∧ Ext w82 W := ⟨_, rfl, (Ext.refl _).drew⟩
          obtain ⟨w98, e100, hx99⟩ := hx99
          have z101 := hx99.size
          refine any_start (fun W => True) (fun i => false) 12 #[false, false, false, false, false, false, false, false, false, false, false, false] rfl rfl rfl ?_
          rw [e100]; clear e100
          refine qp 0 (.slice Ap np cp) F96 rfl rfl (fun W => (rn_move (F96.get rfl))) fun _ F103 => ?_; clear F96
          refine qp 1 (.slice A0 n0 c0) F103 rfl rfl (fun W => (rn_move (F103.get rfl))) fun _ F105 => ?_; clear F103
          refine qp 2 (.int .i64 (half n0 : Nat)) F105 rfl rfl (fun W => (rn_move (F105.get rfl))) fun _ F107 => ?_; clear F105
          have d111 := ((hf60.ext hx83).ext hx99)
          obtain ⟨b108, o109, hA110, -⟩ := Fl.at d111 (by omega)
          refine qp 3 (.slice (some ⟨b108, o109 + (half n0) * 32, none⟩) (n0 - (half n0)) (c0 - (half n0))) F107 rfl rfl (fun W => (rn_sliceLo (l := (half n0)) Tryd.underlying28 inf37 ((F107.get rfl).trans (by rw [hA110])) (F107.get rfl) (by omega : (half n0) ≤ n0) (by omega : (half n0) < c0))) fun _ F113 => ?_; clear F107
          refine qp 7 (.slice A0 n0 c0) F113 rfl rfl (fun W => (rn_move (F113.get rfl))) fun _ F115 => ?_; clear F113
          refine qp 8 (.int .i64 (half n0 : Nat)) F115 rfl rfl (fun W => (rn_move (F115.get rfl))) fun _ F117 => ?_; clear F115
          refine qp 9 (.slice A0 (half n0) c0) F117 rfl rfl (fun W => (rn_sliceHi Tryd.underlying28 inf37 (F117.get rfl) (F117.get rfl) (by omega : (0 : Int) ≤ (half n0 : Nat)) (by omega : ((half n0 : Nat) : Int) ≤ ((c0 : Nat) : Int)))) fun _ F119 => ?_; clear F117
          refine any_one (i := 4) (by decide +kernel) rfl ?_
          have hf120 := (Fl.drop_eq (j := (half n0)) d111 hA110 (by omega) (digVals_drop hl32 _))
          refine o_call F119 rfl rfl rfl rfl (rn_call (args1 (F119.get rfl)) rfl (by kernel_rfl)) (tree_at (l0.drop (half n0)) _ (n := n0 - (half n0)) (v := (.slice (some ⟨b108, o109 + (half n0) * 32, none⟩) (n0 - (half n0)) (c0 - (half n0)))) (All32.drop hl32 _) hf120 (hG.ext ((((Ext.refl w).trans hx52).trans hx83).trans hx99))) ?_
          rintro _ w121 ⟨rfl, hx122⟩
          refine ⟨_, rfl, ?_⟩; intro a123 F124; clear F119; have z125 := hx122.size
          refine ⟨fun _ _ => trivial, ?_⟩
          refine any_one (i := 5) (by decide +kernel) rfl ?_
          refine o_new (fun g => (.slice (some ⟨g, 0, none⟩) 1 1)) (byteVals ((treeD (l0.drop (half n0))))) 37 F124 rfl rfl rfl rfl (rn_buildSlice (parts1 (F124.get rfl)) (build_wholeE (vs := [(.agg (byteVals (treeD (l0.drop (half n0)))).toArray)]) El28 rfl rfl (fun v hv => by rw [List.mem_singleton.1 hv]; exact (byteVals_len (treeD_len _))) (by decide) (by decide) (by simp [Value.cells, byteVals]))) ?_
          intro g126 w127 a132 F133 z130 z131 b128 hx129; clear F124
          refine ⟨fun _ _ => trivial, ?_⟩
          refine any_one (i := 6) (by decide +kernel) rfl ?_
          have r134 := (own_ext (own_ext (own_ext (own_ext r59 hx83) hx99) hx122) hx129)
          have hf142 := r134
          refine o_appA (zs := digVals (p0 ++ ([treeD (l0.drop (half n0))]))) El28 F133 rfl rfl rfl rfl rfl (F133.get rfl) (F133.get rfl) hf142 (Fl.cel (Fl.digblk (S := fun b => b = g126) b128 (All32.sing (treeD_len _)) (by simp [digVals, byteVals]))).2.2 (by omega) (by omega) (by omega) (digVals_app _ _) ?_
          intro A135 c136 w137 a143 F144 r138 hg139 z140 z141; clear F133; have z145 := hg139.size
          refine ⟨fun _ _ => trivial, ?_⟩
          refine qp 10 (.slice A135 (np + 1) c136) F144 rfl rfl (fun W => (rn_assign (F144.get rfl))) fun _ F147 => ?_; clear F144
          refine qp 11 (.slice A0 (half n0) c0) F147 rfl rfl (fun W => (rn_assign (F147.get rfl))) fun _ F149 => ?_; clear F147
          refine any_nil (by decide +kernel) ?_
          have d150 := (hf60.pres (Pres.row (((((Pres.refl w50).ext hx83).ext hx99).ext hx122).ext hx129) hg139 hf142 (fun b hb h => by simp only [Clip] at h; omega)))
          refine ⟨⟨A0, (half n0), c0, l0.take (half n0), a0, A135, np + 1, c136, p0 ++ ([treeD (l0.drop (half n0))]), (((((F149.nil.cons (q_get F149 (t := 14) rfl rfl)).cons (q_get F149 (t := 5) rfl rfl)).cons (q_get F149 (t := 4) rfl (by first | rfl | (congr 1; omega) | (congr 1; done)))).cons (q_get F149 (t := 1) rfl (by first | rfl | (congr 1; omega) | (congr 1; done)))).cons (q_get F149 (t := 0) rfl (by first | rfl | (congr 1; omega) | (congr 1; done)))), (Fl.dlen (Fl.take_eq (j := (half n0)) d150 (by omega) (digVals_take hl32 _)) (All32.take hl32 _)), (by have hpl : l0.length = n0 := hp53; subst hpl; exact pathD_first (by omega) (by omega) hp54), (by omega), (All32.take hl32 _), (All32.app hp32 (All32.sing (treeD_len _))), (by omega), (ext_row ((((((Ext.refl w).trans hx52).trans hx83).trans hx99).trans hx122).trans hx129) hg139 hf142 (by omega)), r138, (Fl.take_eq (j := (half n0)) d150 (by omega) (digVals_take hl32 _)), (by omega), (by omega)⟩, ?_⟩
          rw [F149.get (t := 0) rfl, hL63.get (t := 0) rfl]; simp only [sliceLen]; omega
        · skip
          refine wp_cond_false (c_false F96 rfl (decide_eq_false hc97)) ?_
          have hx152 : ∃ W, w82.drew = W ∧ Ext w82 W := ⟨_, rfl, (Ext.refl _).drew⟩
          obtain ⟨w151, e153, hx152⟩ := hx152
          have z154 := hx152.size
          refine any_start (fun W => True) (fun i => false) 16 #[false, false, false, false, false, false, false, false, false, false, false, false, false, false, false, false] rfl rfl rfl ?_
          rw [e153]; clear e153
          refine qp 0 (.slice Ap np cp) F96 rfl rfl (fun W => (rn_move (F96.get rfl))) fun _ F156 => ?_; clear F96
          refine qp 1 (.slice A0 n0 c0) F156 rfl rfl (fun W => (rn_move (F156.get rfl))) fun _ F158 => ?_; clear F156
          refine qp 2 (.int .i64 (half n0 : Nat)) F158 rfl rfl (fun W => (rn_move (F158.get rfl))) fun _ F160 => ?_; clear F158
          refine qp 3 (.slice A0 (half n0) c0) F160 rfl rfl (fun W => (rn_sliceHi Tryd.underlying28 inf37 (F160.get rfl) (F160.get rfl) (by omega : (0 : Int) ≤ (half n0 : Nat)) (by omega : ((half n0 : Nat) : Int) ≤ ((c0 : Nat) : Int)))) fun _ F162 => ?_; clear F160
          refine qp 7 (.slice A0 n0 c0) F162 rfl rfl (fun W => (rn_move (F162.get rfl))) fun _ F164 => ?_; clear F162
          refine qp 8 (.int .i64 (half n0 : Nat)) F164 rfl rfl (fun W => (rn_move (F164.get rfl))) fun _ F166 => ?_; clear F164
          have d170 := ((hf60.ext hx83).ext hx152)
          obtain ⟨b167, o168, hA169, -⟩ := Fl.at d170 (by omega)
          refine qp 9 (.slice (some ⟨b167, o168 + (half n0) * 32, none⟩) (n0 - (half n0)) (c0 - (half n0))) F166 rfl rfl (fun W => (rn_sliceLo (l := (half n0)) Tryd.underlying28 inf37 ((F166.get rfl).trans (by rw [hA169])) (F166.get rfl) (by omega : (half n0) ≤ n0) (by omega : (half n0) < c0))) fun _ F172 => ?_; clear F166
          refine qp 10 (.int .i64 (a0 : Nat)) F172 rfl rfl (fun W => (rn_move (F172.get rfl))) fun _ F174 => ?_; clear F172
          refine qp 11 (.int .i64 (half n0 : Nat)) F174 rfl rfl (fun W => (rn_move (F174.get rfl))) fun _ F176 => ?_; clear F174
          refine qp 12 (.int .i64 (a0 - (half n0) : Nat)) F176 rfl rfl (fun W => (rn_subN (a := a0) (b := half n0) (F176.get rfl) (F176.get rfl) (by omega) (by omega))) fun _ F178 => ?_; clear F176
          refine any_one (i := 4) (by decide +kernel) rfl ?_
          have hf179 := (Fl.take_eq (j := (half n0)) d170 (by omega) (digVals_take hl32 _))
          refine o_call F178 rfl rfl rfl rfl (rn_call (args1 (F178.get rfl)) rfl (by kernel_rfl)) (tree_at (l0.take (half n0)) _ (n := (half n0)) (v := (.slice A0 (half n0) c0)) (All32.take hl32 _) hf179 (hG.ext ((((Ext.refl w).trans hx52).trans hx83).trans hx152))) ?_
          rintro _ w180 ⟨rfl, hx181⟩
          refine ⟨_, rfl, ?_⟩; intro a182 F183; clear F178; have z184 := hx181.size
          refine ⟨fun _ _ => trivial, ?_⟩
          refine any_one (i := 5) (by decide +kernel) rfl ?_
          refine o_new (fun g => (.slice (some ⟨g, 0, none⟩) 1 1)) (byteVals ((treeD (l0.take (half n0))))) 37 F183 rfl rfl rfl rfl (rn_buildSlice (parts1 (F183.get rfl)) (build_wholeE (vs := [(.agg (byteVals (treeD (l0.take (half n0)))).toArray)]) El28 rfl rfl (fun v hv => by rw [List.mem_singleton.1 hv]; exact (byteVals_len (treeD_len _))) (by decide) (by decide) (by simp [Value.cells, byteVals]))) ?_
          intro g185 w186 a191 F192 z189 z190 b187 hx188; clear F183
          refine ⟨fun _ _ => trivial, ?_⟩
          refine any_one (i := 6) (by decide +kernel) rfl ?_
          have r193 := (own_ext (own_ext (own_ext (own_ext r59 hx83) hx152) hx181) hx188)
          have hf201 := r193
          refine o_appA (zs := digVals (p0 ++ ([treeD (l0.take (half n0))]))) El28 F192 rfl rfl rfl rfl rfl (F192.get rfl) (F192.get rfl) hf201 (Fl.cel (Fl.digblk (S := fun b => b = g185) b187 (All32.sing (treeD_len _)) (by simp [digVals, byteVals]))).2.2 (by omega) (by omega) (by omega) (digVals_app _ _) ?_
          intro A194 c195 w196 a202 F203 r197 hg198 z199 z200; clear F192; have z204 := hg198.size
          refine ⟨fun _ _ => trivial, ?_⟩
          refine qp 13 (.slice A194 (np + 1) c195) F203 rfl rfl (fun W => (rn_assign (F203.get rfl))) fun _ F206 => ?_; clear F203
          refine qp 14 (.slice (some ⟨b167, o168 + (half n0) * 32, none⟩) (n0 - (half n0)) (c0 - (half n0))) F206 rfl rfl (fun W => (rn_assign (F206.get rfl))) fun _ F208 => ?_; clear F206
          refine qp 15 (.int .i64 (a0 - (half n0) : Nat)) F208 rfl rfl (fun W => (rn_assign (F208.get rfl))) fun _ F210 => ?_; clear F208
          refine any_nil (by decide +kernel) ?_
          have d211 := (hf60.pres (Pres.row (((((Pres.refl w50).ext hx83).ext hx152).ext hx181).ext hx188) hg198 hf201 (fun b hb h => by simp only [Clip] at h; omega)))
          refine ⟨⟨(some ⟨b167, o168 + (half n0) * 32, none⟩), n0 - (half n0), c0 - (half n0), l0.drop (half n0), a0 - (half n0), A194, np + 1, c195, p0 ++ ([treeD (l0.take (half n0))]), (((((F210.nil.cons (q_get F210 (t := 14) rfl rfl)).cons (q_get F210 (t := 5) rfl rfl)).cons (q_get F210 (t := 4) rfl (by first | rfl | (congr 1; omega) | (congr 1; done)))).cons (q_get F210 (t := 1) rfl (by first | rfl | (congr 1; omega) | (congr 1; done)))).cons (q_get F210 (t := 0) rfl (by first | rfl | (congr 1; omega) | (congr 1; done)))), (Fl.dlen (Fl.drop_eq (j := (half n0)) d211 hA169 (by omega) (digVals_drop hl32 _)) (All32.drop hl32 _)), (by have hpl : l0.length = n0 := hp53; subst hpl; exact pathD_second (by omega) (by omega) hp54), (by omega), (All32.drop hl32 _), (All32.app hp32 (All32.sing (treeD_len _))), (by omega), (ext_row ((((((Ext.refl w).trans hx52).trans hx83).trans hx152).trans hx181).trans hx188) hg198 hf201 (by omega)), r197, (Fl.drop_eq (j := (half n0)) d211 hA169 (by omega) (digVals_drop hl32 _)), (by omega), (by omega)⟩, ?_⟩
          rw [F210.get (t := 0) rfl, hL63.get (t := 0) rfl]; simp only [sliceLen]; omega
      · skip
        refine wp_cond_false (c_false F73 rfl (decide_eq_false hc74)) ?_
        refine wp_exit ?_
        refine exit_then ?_
        refine exit_then ?_
        refine exit_here ?_
        refine hK48 _ _ ?_
        clear hK48
        refine wp_seq_k (fun K212 hK212 => ?_)
        refine wp_region_lit ?_
        refine qv 0 (.slice Ap np cp) F73 rfl (rn_move (F73.get rfl)) fun _ F214 => ?_; clear F73
        have hf215 := r59
        refine wpl_op (i := 1) rfl (o_call F214 rfl rfl rfl rfl (rn_call (args1 (F214.get rfl)) rfl (by kernel_rfl)) (rev_at p0 _ hp32 hf215) ?_)
        rintro _ w216 ⟨rfl, r217, hg218⟩
        refine ⟨_, rfl, ?_⟩; intro a219 F220; clear F214; have z221 := hg218.size
        refine wpList_nil ?_
        refine hK212 _ _ ?_
        clear hK212
        have F222 := ((((((F220.nil.c F220 17 rfl).c F220 14 rfl).c F220 5 rfl).c F220 4 rfl).c F220 1 rfl).c F220 0 rfl)
        clear F220
        refine wp_seq_k (fun K223 hK223 => ?_)
        refine wp_region_lit ?_
        refine qv 0 (.slice Ap np cp) F222 rfl (rn_move (F222.get rfl)) fun _ F225 => ?_; clear F222
        refine qv 1 (.slice Ap np cp) F225 rfl (rn_assign (F225.get rfl)) fun _ F227 => ?_; clear F225
        refine qv 2 (.int .i64 0) F227 rfl (rn_assign rfl) fun _ F229 => ?_; clear F227
        refine wpList_nil ?_
        refine hK223 _ _ ?_
        clear hK223
        refine wp_ret ?_
        refine ret2 F229 rfl rfl rfl ?_
        have hdone := pathD_done (by omega) hp54
        have hpf : pathF l at_ = (pathD l an, 0) := by rw [pathF, if_neg (by omega), han, Int.toNat_natCast]
        have hrow := Fl.own (S := fun b => w.heap.size ≤ b) r217 (fun b hb => by omega) (digVals_one _)
        rw [hdone] at hrow
        exact ⟨Ap, np, cp, by rw [hpf], by rw [hpf]; exact hrow, by rw [hpf, ← hdone]; exact hp32.rev, (ext_row ((Ext.refl w).trans hx52) hg218 hf215 (by omega))⟩

theorem path_at {v : Value} {n : Nat} (l : List (List UInt8)) (at_ : Int) (w : World) (h32 : All32 l) (hf : Fl S w 32 v n (digVals l)) (hG : Glob w) (hbig : n ≤ 4398046511104) :
    Calls Tryd.prog 32 #[v, .int .i64 at_] w (fun e w' => ∃ A' n c', e = .returned (.tuple #[.slice A' n c', .int .i64 (pathF l at_).2]) ∧ Fl (fun b => w.heap.size ≤ b) w' 32 (.slice A' n c') n (digVals (pathF l at_).1) ∧ All32 (pathF l at_).1 ∧ Ext w w') := by
  have hm := Fl.dlen hf h32
  subst hm
  obtain ⟨A, c, rfl, _⟩ := hf.form
  exact path_any A c l at_ w h32 hf hG hbig

end Go.Proofs.YtmjgjopbeokajaaDoor

namespace Go.Proofs.YtmjgjopbeokajaaDoor
open Go.RowKit

variable {S S' : Nat → Prop}

def zero32 : List UInt8 := List.replicate 32 0
def climbF (d : List UInt8) (at_ n : Int) (p : List (List UInt8)) : List UInt8 × Int := if (n < 1 ∨ 1099511627776 < n ∨ at_ < 0 ∨ n ≤ at_) ∨ p.length ≠ (dirs at_.toNat n.toNat).length then (zero32, 1) else (climbL nodeD leafD d at_.toNat n.toNat p, 0)
theorem dirs_step1 {a n a0 n0 h0 : Nat} {f : List Bool} (hh : h0 = half n0) (h : 2 ≤ n0) (h2 : a0 < h0) (e : dirs a n = f ++ dirs a0 n0) : dirs a n = (f ++ [decide (((a0 : Nat) : Int) < ((h0 : Nat) : Int))]) ++ dirs a0 h0 := by
  subst hh
  rw [e, dirs_first h h2, decide_eq_true (by omega)]; simp
theorem dirs_step2 {a n a0 n0 h0 : Nat} {f : List Bool} (hh : h0 = half n0) (h : 2 ≤ n0) (h2 : ¬ a0 < h0) (e : dirs a n = f ++ dirs a0 n0) : dirs a n = (f ++ [decide (((a0 : Nat) : Int) < ((h0 : Nat) : Int))]) ++ dirs (a0 - h0) (n0 - h0) := by
  subst hh
  rw [e, dirs_second h h2, decide_eq_false (by omega)]; simp
def climbTo (d : List UInt8) (f : List Bool) (p : List (List UInt8)) (k : Nat) : List UInt8 := ((p.take k).zip (f.reverse.take k)).foldl (step1 nodeD) (leafD d)
theorem climbTo_step {d x : List UInt8} {f : List Bool} {p : List (List UInt8)} {k m : Nat} {b : Bool} (hx : x = climbTo d f p k) (hk : k < p.length) (hl : p.length = f.length) (hm : m = f.length - 1 - k) (hb : f.getD m false = b) : step1 nodeD x (p.getD k [], b) = climbTo d f p (k + 1) := by
  subst hm
  have h1 : p.take (k + 1) = p.take k ++ [p.getD k []] := by rw [List.take_add_one, List.getD_eq_getElem?_getD, List.getElem?_eq_getElem hk]; simp
  have h2 : f.reverse.take (k + 1) = f.reverse.take k ++ [b] := by
    rw [List.take_add_one, List.getElem?_reverse (by omega), ← hb, List.getD_eq_getElem?_getD, List.getElem?_eq_getElem (by omega)]; simp
  rw [hx, climbTo, climbTo, h1, h2, List.zip_append (by simp; omega), List.foldl_append]; rfl
theorem climbTo_t {d x : List UInt8} {f : List Bool} {p : List (List UInt8)} {k m : Nat} (hx : x = climbTo d f p k) (hk : k < p.length) (hl : p.length = f.length) (hm : m = f.length - 1 - k) (hb : f.getD m false = true) : nodeD x (p.getD k []) = climbTo d f p (k + 1) := climbTo_step hx hk hl hm hb
theorem climbTo_f {d x : List UInt8} {f : List Bool} {p : List (List UInt8)} {k m : Nat} (hx : x = climbTo d f p k) (hk : k < p.length) (hl : p.length = f.length) (hm : m = f.length - 1 - k) (hb : f.getD m false = false) : nodeD (p.getD k []) x = climbTo d f p (k + 1) := climbTo_step hx hk hl hm hb
theorem climbTo_done {d x : List UInt8} {f : List Bool} {p : List (List UInt8)} {k a n : Nat} (hx : x = climbTo d f p k) (hk : k = p.length) (hl : p.length = f.length) (hf : dirs a n = f) : x = climbL nodeD leafD d a n p := by
  subst hk
  rw [hx, climbTo, climbL, hf, List.take_length, List.take_of_length_le (by simp; omega)]
theorem Fl.boollen {w : World} {v : Value} {n : Nat} {l : List Bool} (h : Fl S w 1 v n (boolVals l)) : l.length = n := by
  have := h.len; simp [boolVals] at this; omega
theorem climbF_len (d : List UInt8) (at_ n : Int) (p : List (List UInt8)) : (climbF d at_ n p).1.length = 32 := by
  unfold climbF
  split
  · rfl
  · show (climbL nodeD leafD d at_.toNat n.toNat p).length = 32
    unfold climbL
    generalize p.zip (dirs at_.toNat n.toNat).reverse = l
    have : ∀ (l : List (List UInt8 × Bool)) (x : List UInt8), x.length = 32 → (l.foldl (step1 nodeD) x).length = 32 := by
      intro l
      induction l with
      | nil => intro x h; exact h
      | cons q l ih => intro x h; exact ih _ (by unfold step1; split <;> exact nodeD_len _ _)
    exact this l _ (leafD_len d)

set_option maxRecDepth 100000 in
set_option maxHeartbeats 1000000 in
theorem climb_any (d : List UInt8) (at_ n : Int) (A : Option Addr) (c : Nat) (p : List (List UInt8)) (w : World) (hd : d.length = 32) (h32 : All32 p) (hf : Fl S w 32 (.slice A p.length c) p.length (digVals p)) (hG : Glob w) :
    Calls Tryd.prog 44 #[.agg (byteVals d).toArray, .int .i64 at_, .int .i64 n, .slice A p.length c] w (fun e w' => e = .returned (.tuple #[.agg (byteVals (climbF d at_ n p).1).toArray, .int .i64 (climbF d at_ n p).2]) ∧ Ext w w') := by
  have hc : Fl (Clip S w) w 32 (.slice A p.length c) p.length (digVals p) := hf.clip
  have hcc := (Fl.cel hc).2.1
  refine calls_enter (l := [(.agg (byteVals d).toArray), (.int .i64 at_), (.int .i64 n), (.slice A p.length c)]) Tryd.func44 rfl rfl rfl (fun aA hF => ?_)
  refine wp_seq_k (fun K1 hK1 => ?_)
  refine wp_region_lit ?_
  refine wpl_op (i := 0) rfl (o_new (fun g => (.pointer (some ⟨g, 0, none⟩))) (byteVals d) 37 hF rfl rfl rfl rfl (rn_box (hF.get rfl) (box_arr _)) ?_)
  intro g2 w3 a8 F9 z6 z7 b4 hx5; clear hF
  refine wpl_op (i := 1) rfl (o_new (fun g => (.pointer (some ⟨g, 0, none⟩))) (byteVals (List.replicate 32 0)) 37 F9 rfl rfl rfl rfl (by kernel_rfl) ?_)
  intro g10 w11 a16 F17 z14 z15 b12 hx13; clear F9
  refine qv 2 (.int .i64 0) F17 rfl (rn_assign rfl) fun _ F19 => ?_; clear F17
  refine wpList_nil ?_
  refine hK1 _ _ ?_
  clear hK1
  refine wp_seq_k (fun K20 hK20 => ?_)
  refine wp_seq_k (fun K21 hK21 => ?_)
  refine wp_region_lit ?_
  refine qv 0 (.int .i64 n) F19 rfl (rn_move (F19.get rfl)) fun _ F23 => ?_; clear F19
  refine qv 1 (.bool (decide ((n : Int) < (1 : Int)))) F23 rfl (rn_lss (F23.get rfl) rfl) fun _ F25 => ?_; clear F23
  refine qv 2 (.bool (decide ((n : Int) < (1 : Int)))) F25 rfl (rn_move (F25.get rfl)) fun _ F27 => ?_; clear F25
  by_cases hc28 : (n : Int) < (1 : Int)
  · skip
    refine qu 3 F27 (decide_eq_true hc28) fun _ F30 => ?_; clear F27
    refine qu 4 F30 (decide_eq_true hc28) fun _ F32 => ?_; clear F30
    refine qv 5 (.bool true) F32 rfl (rn_pickT (c_true F32 rfl (decide_eq_true hc28)) rfl) fun _ F34 => ?_; clear F32
    refine qv 6 (.bool true) F34 rfl (rn_move (F34.get rfl)) fun _ F36 => ?_; clear F34
    refine qu 7 F36 rfl fun _ F38 => ?_; clear F36
    refine qu 8 F38 rfl fun _ F40 => ?_; clear F38
    refine qv 9 (.bool true) F40 rfl (rn_pickT (c_true F40 rfl rfl) rfl) fun _ F42 => ?_; clear F40
    refine qv 10 (.bool true) F42 rfl (rn_move (F42.get rfl)) fun _ F44 => ?_; clear F42
    refine qu 11 F44 rfl fun _ F46 => ?_; clear F44
    refine qu 12 F46 rfl fun _ F48 => ?_; clear F46
    refine qu 13 F48 rfl fun _ F50 => ?_; clear F48
    refine qv 14 (.bool true) F50 rfl (rn_pickT (c_true F50 rfl rfl) rfl) fun _ F52 => ?_; clear F50
    refine wpList_nil ?_
    refine hK21 _ _ ?_
    clear hK21
    have F53 := ((((((((F52.nil.c F52 28 rfl).c F52 9 rfl).c F52 8 rfl).c F52 4 rfl).c F52 3 rfl).c F52 2 rfl).c F52 1 rfl).c F52 0 rfl)
    clear F52
    refine wp_cond_true (c_true F53 rfl rfl) ?_
    refine wp_seq_k (fun K54 hK54 => ?_)
    refine wp_region_lit ?_
    refine qv 0 (.agg (byteVals (List.replicate 32 0)).toArray) F53 rfl (rn_loadBlk (F53.get rfl) b12 Tryd.underlying37 rfl (inf37.trans (congrArg some (byteVals_len (show List.length (List.replicate 32 0) = _ from List.length_replicate)).symm))) fun _ F56 => ?_; clear F53
    refine wpl_op (i := 1) rfl (o_store (cells := (byteVals (List.replicate 32 0))) F56 rfl rfl rfl rfl (F56.get rfl) (F56.get rfl) b12 (inf37.trans (congrArg some (byteVals_len (show List.length (List.replicate 32 0) = _ from List.length_replicate)).symm)) ((byteVals_len (show List.length (List.replicate 32 0) = _ from List.length_replicate)).trans (byteVals_len (show List.length (List.replicate 32 0) = _ from List.length_replicate)).symm) (byteVals_one _) ?_)
    intro w57 b58 hg59; have z60 := hg59.size
    refine qv 2 (.int .i64 1) F56 rfl (rn_assign rfl) fun _ F62 => ?_; clear F56
    refine wpList_nil ?_
    refine hK54 _ _ ?_
    clear hK54
    refine wp_ret ?_
    refine ret_then ?_
    refine retC1 F62 rfl rfl rfl b58 Tryd.underlying37 rfl (inf37.trans (congrArg some (byteVals_len (show List.length (List.replicate 32 0) = _ from List.length_replicate)).symm)) ?_
    have hcl : climbF d at_ n p = (zero32, 1) := by rw [climbF, if_pos (.inl (by omega))]
    exact ⟨by rw [hcl]; rfl, ((((Ext.refl w).trans hx5).trans hx13).grownN hg59 (by omega))⟩
  · skip
    refine qg 3 (.int .i64 n) F27 (decide_eq_false hc28) (rn_move (F27.get rfl)) fun _ F64 => ?_; clear F27
    refine qg 4 (.bool (decide ((1099511627776 : Int) < (n : Int)))) F64 (decide_eq_false hc28) (rn_gtr (F64.get rfl) rfl) fun _ F66 => ?_; clear F64
    refine qv 5 (.bool (decide ((1099511627776 : Int) < (n : Int)))) F66 rfl (rn_pickF (c_false F66 rfl (decide_eq_false hc28)) (F66.get rfl)) fun _ F68 => ?_; clear F66
    refine qv 6 (.bool (decide ((1099511627776 : Int) < (n : Int)))) F68 rfl (rn_move (F68.get rfl)) fun _ F70 => ?_; clear F68
    by_cases hc71 : (1099511627776 : Int) < (n : Int)
    · skip
      refine qu 7 F70 (decide_eq_true hc71) fun _ F73 => ?_; clear F70
      refine qu 8 F73 (decide_eq_true hc71) fun _ F75 => ?_; clear F73
      refine qv 9 (.bool true) F75 rfl (rn_pickT (c_true F75 rfl (decide_eq_true hc71)) rfl) fun _ F77 => ?_; clear F75
      refine qv 10 (.bool true) F77 rfl (rn_move (F77.get rfl)) fun _ F79 => ?_; clear F77
      refine qu 11 F79 rfl fun _ F81 => ?_; clear F79
      refine qu 12 F81 rfl fun _ F83 => ?_; clear F81
      refine qu 13 F83 rfl fun _ F85 => ?_; clear F83
      refine qv 14 (.bool true) F85 rfl (rn_pickT (c_true F85 rfl rfl) rfl) fun _ F87 => ?_; clear F85
      refine wpList_nil ?_
      refine hK21 _ _ ?_
      clear hK21
      have F88 := ((((((((F87.nil.c F87 28 rfl).c F87 9 rfl).c F87 8 rfl).c F87 4 rfl).c F87 3 rfl).c F87 2 rfl).c F87 1 rfl).c F87 0 rfl)
      clear F87
      refine wp_cond_true (c_true F88 rfl rfl) ?_
      refine wp_seq_k (fun K89 hK89 => ?_)
      refine wp_region_lit ?_
      refine qv 0 (.agg (byteVals (List.replicate 32 0)).toArray) F88 rfl (rn_loadBlk (F88.get rfl) b12 Tryd.underlying37 rfl (inf37.trans (congrArg some (byteVals_len (show List.length (List.replicate 32 0) = _ from List.length_replicate)).symm))) fun _ F91 => ?_; clear F88
      refine wpl_op (i := 1) rfl (o_store (cells := (byteVals (List.replicate 32 0))) F91 rfl rfl rfl rfl (F91.get rfl) (F91.get rfl) b12 (inf37.trans (congrArg some (byteVals_len (show List.length (List.replicate 32 0) = _ from List.length_replicate)).symm)) ((byteVals_len (show List.length (List.replicate 32 0) = _ from List.length_replicate)).trans (byteVals_len (show List.length (List.replicate 32 0) = _ from List.length_replicate)).symm) (byteVals_one _) ?_)
      intro w92 b93 hg94; have z95 := hg94.size
      refine qv 2 (.int .i64 1) F91 rfl (rn_assign rfl) fun _ F97 => ?_; clear F91
      refine wpList_nil ?_
      refine hK89 _ _ ?_
      clear hK89
      refine wp_ret ?_
      refine ret_then ?_
      refine retC1 F97 rfl rfl rfl b93 Tryd.underlying37 rfl (inf37.trans (congrArg some (byteVals_len (show List.length (List.replicate 32 0) = _ from List.length_replicate)).symm)) ?_
      have hcl : climbF d at_ n p = (zero32, 1) := by rw [climbF, if_pos (.inl (by omega))]
      exact ⟨by rw [hcl]; rfl, ((((Ext.refl w).trans hx5).trans hx13).grownN hg94 (by omega))⟩
    · skip
      refine qg 7 (.int .i64 at_) F70 (decide_eq_false hc71) (rn_move (F70.get rfl)) fun _ F99 => ?_; clear F70
      refine qg 8 (.bool (decide ((at_ : Int) < (0 : Int)))) F99 (decide_eq_false hc71) (rn_lss (F99.get rfl) rfl) fun _ F101 => ?_; clear F99
      refine qv 9 (.bool (decide ((at_ : Int) < (0 : Int)))) F101 rfl (rn_pickF (c_false F101 rfl (decide_eq_false hc71)) (F101.get rfl)) fun _ F103 => ?_; clear F101
      refine qv 10 (.bool (decide ((at_ : Int) < (0 : Int)))) F103 rfl (rn_move (F103.get rfl)) fun _ F105 => ?_; clear F103
      by_cases hc106 : (at_ : Int) < (0 : Int)
      · skip
        refine qu 11 F105 (decide_eq_true hc106) fun _ F108 => ?_; clear F105
        refine qu 12 F108 (decide_eq_true hc106) fun _ F110 => ?_; clear F108
        refine qu 13 F110 (decide_eq_true hc106) fun _ F112 => ?_; clear F110
        refine qv 14 (.bool true) F112 rfl (rn_pickT (c_true F112 rfl (decide_eq_true hc106)) rfl) fun _ F114 => ?_; clear F112
        refine wpList_nil ?_
        refine hK21 _ _ ?_
        clear hK21
        have F115 := ((((((((F114.nil.c F114 28 rfl).c F114 9 rfl).c F114 8 rfl).c F114 4 rfl).c F114 3 rfl).c F114 2 rfl).c F114 1 rfl).c F114 0 rfl)
        clear F114
        refine wp_cond_true (c_true F115 rfl rfl) ?_
        refine wp_seq_k (fun K116 hK116 => ?_)
        refine wp_region_lit ?_
        refine qv 0 (.agg (byteVals (List.replicate 32 0)).toArray) F115 rfl (rn_loadBlk (F115.get rfl) b12 Tryd.underlying37 rfl (inf37.trans (congrArg some (byteVals_len (show List.length (List.replicate 32 0) = _ from List.length_replicate)).symm))) fun _ F118 => ?_; clear F115
        refine wpl_op (i := 1) rfl (o_store (cells := (byteVals (List.replicate 32 0))) F118 rfl rfl rfl rfl (F118.get rfl) (F118.get rfl) b12 (inf37.trans (congrArg some (byteVals_len (show List.length (List.replicate 32 0) = _ from List.length_replicate)).symm)) ((byteVals_len (show List.length (List.replicate 32 0) = _ from List.length_replicate)).trans (byteVals_len (show List.length (List.replicate 32 0) = _ from List.length_replicate)).symm) (byteVals_one _) ?_)
        intro w119 b120 hg121; have z122 := hg121.size
        refine qv 2 (.int .i64 1) F118 rfl (rn_assign rfl) fun _ F124 => ?_; clear F118
        refine wpList_nil ?_
        refine hK116 _ _ ?_
        clear hK116
        refine wp_ret ?_
        refine ret_then ?_
        refine retC1 F124 rfl rfl rfl b120 Tryd.underlying37 rfl (inf37.trans (congrArg some (byteVals_len (show List.length (List.replicate 32 0) = _ from List.length_replicate)).symm)) ?_
        have hcl : climbF d at_ n p = (zero32, 1) := by rw [climbF, if_pos (.inl (by omega))]
        exact ⟨by rw [hcl]; rfl, ((((Ext.refl w).trans hx5).trans hx13).grownN hg121 (by omega))⟩
      · skip
        refine qg 11 (.int .i64 at_) F105 (decide_eq_false hc106) (rn_move (F105.get rfl)) fun _ F126 => ?_; clear F105
        refine qg 12 (.int .i64 n) F126 (decide_eq_false hc106) (rn_move (F126.get rfl)) fun _ F128 => ?_; clear F126
        refine qg 13 (.bool (decide ((n : Int) ≤ (at_ : Int)))) F128 (decide_eq_false hc106) (rn_geq (F128.get rfl) (F128.get rfl)) fun _ F130 => ?_; clear F128
        refine qv 14 (.bool (decide ((n : Int) ≤ (at_ : Int)))) F130 rfl (rn_pickF (c_false F130 rfl (decide_eq_false hc106)) (F130.get rfl)) fun _ F132 => ?_; clear F130
        refine wpList_nil ?_
        refine hK21 _ _ ?_
        clear hK21
        have F133 := ((((((((F132.nil.c F132 28 rfl).c F132 9 rfl).c F132 8 rfl).c F132 4 rfl).c F132 3 rfl).c F132 2 rfl).c F132 1 rfl).c F132 0 rfl)
        clear F132
        by_cases hc134 : (n : Int) ≤ (at_ : Int)
        · skip
          refine wp_cond_true (c_true F133 rfl (decide_eq_true hc134)) ?_
          refine wp_seq_k (fun K135 hK135 => ?_)
          refine wp_region_lit ?_
          refine qv 0 (.agg (byteVals (List.replicate 32 0)).toArray) F133 rfl (rn_loadBlk (F133.get rfl) b12 Tryd.underlying37 rfl (inf37.trans (congrArg some (byteVals_len (show List.length (List.replicate 32 0) = _ from List.length_replicate)).symm))) fun _ F137 => ?_; clear F133
          refine wpl_op (i := 1) rfl (o_store (cells := (byteVals (List.replicate 32 0))) F137 rfl rfl rfl rfl (F137.get rfl) (F137.get rfl) b12 (inf37.trans (congrArg some (byteVals_len (show List.length (List.replicate 32 0) = _ from List.length_replicate)).symm)) ((byteVals_len (show List.length (List.replicate 32 0) = _ from List.length_replicate)).trans (byteVals_len (show List.length (List.replicate 32 0) = _ from List.length_replicate)).symm) (byteVals_one _) ?_)
          intro w138 b139 hg140; have z141 := hg140.size
          refine qv 2 (.int .i64 1) F137 rfl (rn_assign rfl) fun _ F143 => ?_; clear F137
          refine wpList_nil ?_
          refine hK135 _ _ ?_
          clear hK135
          refine wp_ret ?_
          refine ret_then ?_
          refine retC1 F143 rfl rfl rfl b139 Tryd.underlying37 rfl (inf37.trans (congrArg some (byteVals_len (show List.length (List.replicate 32 0) = _ from List.length_replicate)).symm)) ?_
          have hcl : climbF d at_ n p = (zero32, 1) := by rw [climbF, if_pos (.inl (by omega))]
          exact ⟨by rw [hcl]; rfl, ((((Ext.refl w).trans hx5).trans hx13).grownN hg140 (by omega))⟩
        · skip
          refine wp_cond_false (c_false F133 rfl (decide_eq_false hc134)) ?_
          refine wp_skip ?_
          refine hK20 _ _ ?_
          clear hK20
          refine wp_seq_k (fun K144 hK144 => ?_)
          refine wp_region_lit ?_
          refine qv 0 (.slice none 0 0) F133 rfl (rn_assign rfl) fun _ F146 => ?_; clear F133
          refine wpList_nil ?_
          refine hK144 _ _ ?_
          clear hK144
          refine wp_seq_k (fun K147 hK147 => ?_)
          refine wp_block ?_
          obtain ⟨an, han⟩ : ∃ an : Nat, at_ = (an : Int) := ⟨at_.toNat, by omega⟩
          obtain ⟨nn, hnn⟩ : ∃ nn : Nat, n = (nn : Int) := ⟨n.toNat, by omega⟩
          have b148 := (b4.ext hx13)
          refine wp_loop (fun a' W => ∃ (a0 : Nat) (n0 : Nat) (Af : Option Addr) (nf : Nat) (cf : Nat) (f0 : List Bool), Sl 81 [(0, (.agg (byteVals d).toArray)), (1, (.int .i64 (a0 : Nat))), (2, (.int .i64 (n0 : Nat))), (3, (.slice A p.length c)), (4, (.pointer (some ⟨g2, 0, none⟩))), (8, (.pointer (some ⟨g10, 0, none⟩))), (9, (.int .i64 0)), (28, (.bool (decide ((n : Int) ≤ (at_ : Int))))), (10, (.slice Af nf cf))] a' ∧ dirs an nn = f0 ++ dirs a0 n0 ∧ a0 < n0 ∧ nf + n0 ≤ nn ∧ Ext w W ∧ Blk W g2 37 (byteVals d) ∧ Blk W g10 37 (byteVals (List.replicate 32 0)) ∧ W.ownsRow w11.heap.size 4 1 (.slice Af nf cf) nf (boolVals f0) ∧ w11.heap.size ≤ W.heap.size ∧ w11.heap.size ≤ W.heap.size) (fun a' _ => (intOf (a'.eval (.tmp 2))).toNat) ⟨an, nn, none, 0, 0, [], (((((((((F146.nil.cons (q_get F146 (t := 10) rfl (by first | rfl | (congr 1; omega) | (congr 1; done)))).cons (q_get F146 (t := 28) rfl rfl)).cons (q_get F146 (t := 9) rfl rfl)).cons (q_get F146 (t := 8) rfl rfl)).cons (q_get F146 (t := 4) rfl rfl)).cons (q_get F146 (t := 3) rfl rfl)).cons (q_get F146 (t := 2) rfl (by first | rfl | (congr 1; omega) | (congr 1; done)))).cons (q_get F146 (t := 1) rfl (by first | rfl | (congr 1; omega) | (congr 1; done)))).cons (q_get F146 (t := 0) rfl rfl)), rfl, (by omega), (by omega), (((Ext.refl w).trans hx5).trans hx13), b148, b12, (own_nil w11 w11.heap.size 4 1), (by omega), (Nat.le_refl _)⟩ ?_
          clear F146
          rintro a149 w150 ⟨a0, n0, Af, nf, cf, f0, F151, hp153, hp154, hp155, hx152, b156, b157, r158, hf159, hf160⟩
          have hL161 := F151
          have z162 := hx152.size
          have z163 := b156.lt
          have z164 := b157.lt
          have z165 := own_form0 r158
          refine wp_seq_k (fun K166 hK166 => ?_)
          refine wp_seq_k (fun K167 hK167 => ?_)
          refine wp_region_lit ?_
          refine qv 0 (.int .i64 (n0 : Nat)) F151 rfl (rn_move (F151.get rfl)) fun _ F169 => ?_; clear F151
          refine qv 1 (.bool (decide ((1 : Int) < ((n0 : Nat) : Int)))) F169 rfl (rn_gtr (F169.get rfl) rfl) fun _ F171 => ?_; clear F169
          refine wpList_nil ?_
          refine hK167 _ _ ?_
          clear hK167
          by_cases hc172 : (1 : Int) < ((n0 : Nat) : Int)
          · skip
            refine wp_cond_true (c_true F171 rfl (decide_eq_true hc172)) ?_
            refine wp_skip ?_
            refine hK166 _ _ ?_
            clear hK166
            refine wp_block ?_
            refine wp_seq_k (fun K173 hK173 => ?_)
            refine wp_region_lit ?_
            refine qv 0 (.int .i64 (n0 : Nat)) F171 rfl (rn_move (F171.get rfl)) fun _ F175 => ?_; clear F171
            have z176 := half_lt (n := n0) (by omega); have z177 := half_pos n0
            refine wpl_op (i := 1) rfl (o_call F175 rfl rfl rfl rfl (rn_call (args1 (F175.get rfl)) rfl (by kernel_rfl)) (half_any n0 _ (by omega) (by omega)) ?_)
            rintro _ w178 ⟨rfl, hx179⟩
            refine ⟨_, rfl, ?_⟩; intro a180 F181; clear F175; have z182 := hx179.size
            refine qv 2 (.int .i64 (half n0 : Nat)) F181 rfl (rn_assign (F181.get rfl)) fun _ F184 => ?_; clear F181
            refine wpList_nil ?_
            refine hK173 _ _ ?_
            clear hK173
            refine wp_seq_k (fun K185 hK185 => ?_)
            refine wp_region_lit ?_
            refine qv 0 (.slice Af nf cf) F184 rfl (rn_move (F184.get rfl)) fun _ F187 => ?_; clear F184
            refine qv 1 (.int .i64 (a0 : Nat)) F187 rfl (rn_move (F187.get rfl)) fun _ F189 => ?_; clear F187
            refine qv 2 (.int .i64 (half n0 : Nat)) F189 rfl (rn_move (F189.get rfl)) fun _ F191 => ?_; clear F189
            refine qv 3 (.bool (decide (((a0 : Nat) : Int) < ((half n0 : Nat) : Int)))) F191 rfl (rn_lss (F191.get rfl) (F191.get rfl)) fun _ F193 => ?_; clear F191
            refine wpl_op (i := 4) rfl (o_new (fun g => (.slice (some ⟨g, 0, none⟩) 1 1)) [(.bool (decide (((a0 : Nat) : Int) < ((half n0 : Nat) : Int))))] 4 F193 rfl rfl rfl rfl (rn_buildSlice (parts1 (F193.get rfl)) (by kernel_rfl)) ?_)
            intro g194 w195 a200 F201 z198 z199 b196 hx197; clear F193
            have r202 := (own_ext (own_ext r158 hx179) hx197)
            have hf210 := r202
            refine wpl_op (i := 5) rfl (o_appA (zs := boolVals (f0 ++ ([decide (((a0 : Nat) : Int) < ((half n0 : Nat) : Int))]))) El44 F201 rfl rfl rfl rfl rfl (F201.get rfl) (F201.get rfl) hf210 (Fl.cel (Fl.blk (S := fun b => b = g194) (k := 1) (n := 1) (c := 1) (cs := boolVals [decide (((a0 : Nat) : Int) < ((half n0 : Nat) : Int))]) b196 rfl (boolVals_one _) (by omega) rfl)).2.2 (by omega) (by omega) (by omega) (boolVals_app _ _) ?_)
            intro A203 c204 w205 a211 F212 r206 hg207 z208 z209; clear F201; have z213 := hg207.size
            refine qv 6 (.slice A203 (nf + 1) c204) F212 rfl (rn_assign (F212.get rfl)) fun _ F215 => ?_; clear F212
            refine wpList_nil ?_
            refine hK185 _ _ ?_
            clear hK185
            have F216 := (((((((((((F215.nil.c F215 11 rfl).c F215 31 rfl).c F215 10 rfl).c F215 28 rfl).c F215 9 rfl).c F215 8 rfl).c F215 4 rfl).c F215 3 rfl).c F215 2 rfl).c F215 1 rfl).c F215 0 rfl)
            clear F215
            refine wp_seq_k (fun K217 hK217 => ?_)
            refine wp_region_lit ?_
            refine qv 0 (.int .i64 (a0 : Nat)) F216 rfl (rn_move (F216.get rfl)) fun _ F219 => ?_; clear F216
            refine qv 1 (.int .i64 (half n0 : Nat)) F219 rfl (rn_move (F219.get rfl)) fun _ F221 => ?_; clear F219
            refine qv 2 (.bool (decide (((a0 : Nat) : Int) < ((half n0 : Nat) : Int)))) F221 rfl (rn_lss (F221.get rfl) (F221.get rfl)) fun _ F223 => ?_; clear F221
            refine wpList_nil ?_
            refine hK217 _ _ ?_
            clear hK217
            by_cases hc224 : ((a0 : Nat) : Int) < ((half n0 : Nat) : Int)
            · skip
              refine wp_cond_true (c_true F223 rfl (decide_eq_true hc224)) ?_
              refine wp_region_lit ?_
              refine qv 0 (.int .i64 (half n0 : Nat)) F223 rfl (rn_move (F223.get rfl)) fun _ F226 => ?_; clear F223
              refine qv 1 (.int .i64 (half n0 : Nat)) F226 rfl (rn_assign (F226.get rfl)) fun _ F228 => ?_; clear F226
              refine wpList_nil ?_
              have b229 := (grown_blk hf210 hg207 ((b156.ext hx179).ext hx197) (by decide))
              have b230 := (grown_blk hf210 hg207 ((b157.ext hx179).ext hx197) (by decide))
              refine ⟨⟨a0, half n0, A203, nf + 1, c204, f0 ++ ([decide (((a0 : Nat) : Int) < ((half n0 : Nat) : Int))]), (((((((((F228.nil.cons (q_get F228 (t := 10) rfl (by first | rfl | (congr 1; omega) | (congr 1; done)))).cons (q_get F228 (t := 28) rfl rfl)).cons (q_get F228 (t := 9) rfl rfl)).cons (q_get F228 (t := 8) rfl rfl)).cons (q_get F228 (t := 4) rfl rfl)).cons (q_get F228 (t := 3) rfl rfl)).cons (q_get F228 (t := 2) rfl (by first | rfl | (congr 1; omega) | (congr 1; done)))).cons (q_get F228 (t := 1) rfl (by first | rfl | (congr 1; omega) | (congr 1; done)))).cons (q_get F228 (t := 0) rfl rfl)), (dirs_step1 rfl (by omega) (by omega) hp153), (by omega), (by omega), (ext_row ((((Ext.refl w).trans hx152).trans hx179).trans hx197) hg207 hf210 (by omega)), b229, b230, r206, (by omega), (by omega)⟩, ?_⟩
              rw [F228.get (t := 2) rfl, hL161.get (t := 2) rfl]; simp [intOf] <;> omega
            · skip
              refine wp_cond_false (c_false F223 rfl (decide_eq_false hc224)) ?_
              refine wp_region_lit ?_
              refine qv 0 (.int .i64 (a0 : Nat)) F223 rfl (rn_move (F223.get rfl)) fun _ F232 => ?_; clear F223
              refine qv 1 (.int .i64 (half n0 : Nat)) F232 rfl (rn_move (F232.get rfl)) fun _ F234 => ?_; clear F232
              refine qv 2 (.int .i64 (a0 - (half n0) : Nat)) F234 rfl (rn_subN (a := a0) (b := half n0) (F234.get rfl) (F234.get rfl) (by omega) (by omega)) fun _ F236 => ?_; clear F234
              refine qv 3 (.int .i64 (n0 : Nat)) F236 rfl (rn_move (F236.get rfl)) fun _ F238 => ?_; clear F236
              refine qv 4 (.int .i64 (half n0 : Nat)) F238 rfl (rn_move (F238.get rfl)) fun _ F240 => ?_; clear F238
              refine qv 5 (.int .i64 (n0 - (half n0) : Nat)) F240 rfl (rn_subN (a := n0) (b := half n0) (F240.get rfl) (F240.get rfl) (by omega) (by omega)) fun _ F242 => ?_; clear F240
              refine qv 6 (.int .i64 (a0 - (half n0) : Nat)) F242 rfl (rn_assign (F242.get rfl)) fun _ F244 => ?_; clear F242
              refine qv 7 (.int .i64 (n0 - (half n0) : Nat)) F244 rfl (rn_assign (F244.get rfl)) fun _ F246 => ?_; clear F244
              refine wpList_nil ?_
              have b247 := (grown_blk hf210 hg207 ((b156.ext hx179).ext hx197) (by decide))
              have b248 := (grown_blk hf210 hg207 ((b157.ext hx179).ext hx197) (by decide))
              refine ⟨⟨a0 - (half n0), n0 - (half n0), A203, nf + 1, c204, f0 ++ ([decide (((a0 : Nat) : Int) < ((half n0 : Nat) : Int))]), (((((((((F246.nil.cons (q_get F246 (t := 10) rfl (by first | rfl | (congr 1; omega) | (congr 1; done)))).cons (q_get F246 (t := 28) rfl rfl)).cons (q_get F246 (t := 9) rfl rfl)).cons (q_get F246 (t := 8) rfl rfl)).cons (q_get F246 (t := 4) rfl rfl)).cons (q_get F246 (t := 3) rfl rfl)).cons (q_get F246 (t := 2) rfl (by first | rfl | (congr 1; omega) | (congr 1; done)))).cons (q_get F246 (t := 1) rfl (by first | rfl | (congr 1; omega) | (congr 1; done)))).cons (q_get F246 (t := 0) rfl rfl)), (dirs_step2 rfl (by omega) (by omega) hp153), (by omega), (by omega), (ext_row ((((Ext.refl w).trans hx152).trans hx179).trans hx197) hg207 hf210 (by omega)), b247, b248, r206, (by omega), (by omega)⟩, ?_⟩
              rw [F246.get (t := 2) rfl, hL161.get (t := 2) rfl]; simp [intOf] <;> omega
          · skip
            refine wp_cond_false (c_false F171 rfl (decide_eq_false hc172)) ?_
            refine wp_exit ?_
            refine exit_then ?_
            refine exit_then ?_
            refine exit_here ?_
            refine hK147 _ _ ?_
            clear hK147
            refine wp_seq_k (fun K249 hK249 => ?_)
            refine wp_seq_k (fun K250 hK250 => ?_)
            refine wp_region_lit ?_
            refine qv 0 (.slice A p.length c) F171 rfl (rn_move (F171.get rfl)) fun _ F252 => ?_; clear F171
            refine qv 1 (.int .i64 (p.length : Nat)) F252 rfl (rn_len_slice Tryd.underlying28 (F252.get rfl)) fun _ F254 => ?_; clear F252
            refine qv 2 (.slice Af nf cf) F254 rfl (rn_move (F254.get rfl)) fun _ F256 => ?_; clear F254
            refine qv 3 (.int .i64 (nf : Nat)) F256 rfl (rn_len_slice Tryd.underlying44 (F256.get rfl)) fun _ F258 => ?_; clear F256
            refine qv 4 (.bool (decide (((p.length : Nat) : Int) ≠ ((nf : Nat) : Int)))) F258 rfl (rn_neq (F258.get rfl) (F258.get rfl)) fun _ F260 => ?_; clear F258
            refine wpList_nil ?_
            refine hK250 _ _ ?_
            clear hK250
            have F261 := (((((((((((F260.nil.c F260 54 rfl).c F260 31 rfl).c F260 10 rfl).c F260 28 rfl).c F260 9 rfl).c F260 8 rfl).c F260 4 rfl).c F260 3 rfl).c F260 2 rfl).c F260 1 rfl).c F260 0 rfl)
            clear F260
            by_cases hc262 : ((p.length : Nat) : Int) ≠ ((nf : Nat) : Int)
            · skip
              refine wp_cond_true (c_true F261 rfl (decide_eq_true hc262)) ?_
              refine wp_seq_k (fun K263 hK263 => ?_)
              refine wp_region_lit ?_
              refine qv 0 (.agg (byteVals (List.replicate 32 0)).toArray) F261 rfl (rn_loadBlk (F261.get rfl) b157 Tryd.underlying37 rfl (inf37.trans (congrArg some (byteVals_len (show List.length (List.replicate 32 0) = _ from List.length_replicate)).symm))) fun _ F265 => ?_; clear F261
              refine wpl_op (i := 1) rfl (o_store (cells := (byteVals (List.replicate 32 0))) F265 rfl rfl rfl rfl (F265.get rfl) (F265.get rfl) b157 (inf37.trans (congrArg some (byteVals_len (show List.length (List.replicate 32 0) = _ from List.length_replicate)).symm)) ((byteVals_len (show List.length (List.replicate 32 0) = _ from List.length_replicate)).trans (byteVals_len (show List.length (List.replicate 32 0) = _ from List.length_replicate)).symm) (byteVals_one _) ?_)
              intro w266 b267 hg268; have z269 := hg268.size
              refine qv 2 (.int .i64 1) F265 rfl (rn_assign rfl) fun _ F271 => ?_; clear F265
              refine wpList_nil ?_
              refine hK263 _ _ ?_
              clear hK263
              refine wp_ret ?_
              refine ret_then ?_
              refine retC1 F271 rfl rfl rfl b267 Tryd.underlying37 rfl (inf37.trans (congrArg some (byteVals_len (show List.length (List.replicate 32 0) = _ from List.length_replicate)).symm)) ?_
              have hdir : dirs an nn = f0 := by rw [hp153, dirs_one (by omega), List.append_nil]
              have r272 := (own_grownT r158 b157 hg268 (by decide))
              have hnf := Fl.boollen (Fl.own (S := fun b => w11.heap.size ≤ b) r272 (fun b hb => hb) (boolVals_one _))
              have hcl : climbF d at_ n p = (zero32, 1) := by rw [climbF, han, hnn, Int.toNat_natCast, Int.toNat_natCast, hdir, if_pos (.inr (by omega))]
              exact ⟨by rw [hcl]; rfl, (((Ext.refl w).trans hx152).grownN hg268 (by omega))⟩
            · skip
              refine wp_cond_false (c_false F261 rfl (decide_eq_false hc262)) ?_
              refine wp_skip ?_
              refine hK249 _ _ ?_
              clear hK249
              refine wp_seq_k (fun K273 hK273 => ?_)
              refine wp_region_lit ?_
              refine qv 0 (.agg (byteVals d).toArray) F261 rfl (rn_loadBlk (F261.get rfl) b156 Tryd.underlying37 rfl (inf37.trans (congrArg some (byteVals_len hd).symm))) fun _ F275 => ?_; clear F261
              refine wpl_op (i := 1) rfl (o_call F275 rfl rfl rfl rfl (rn_call (args1 (F275.get rfl)) rfl (by kernel_rfl)) (leaf_any d _ hd (hG.ext ((Ext.refl w).trans hx152))) ?_)
              rintro _ w276 ⟨rfl, hx277⟩
              refine ⟨_, rfl, ?_⟩; intro a278 F279; clear F275; have z280 := hx277.size
              have b284 := (b157.ext hx277)
              refine wpl_op (i := 2) rfl (o_store (cells := (byteVals (leafD d))) F279 rfl rfl rfl rfl (F279.get rfl) (F279.get rfl) b284 (inf37.trans (congrArg some (byteVals_len (leafD_len _)).symm)) ((byteVals_len (show List.length (List.replicate 32 0) = _ from List.length_replicate)).trans (byteVals_len (leafD_len _)).symm) (byteVals_one _) ?_)
              intro w281 b282 hg283; have z285 := hg283.size
              refine wpList_nil ?_
              refine hK273 _ _ ?_
              clear hK273
              refine wp_seq_k (fun K286 hK286 => ?_)
              refine wp_seq_k (fun K287 hK287 => ?_)
              refine wp_region_lit ?_
              refine qv 0 (.slice A p.length c) F279 rfl (rn_move (F279.get rfl)) fun _ F289 => ?_; clear F279
              refine qv 1 (.int .i64 (p.length : Nat)) F289 rfl (rn_len_slice Tryd.underlying28 (F289.get rfl)) fun _ F291 => ?_; clear F289
              refine qv 2 (.int .i64 0) F291 rfl (rn_move rfl) fun _ F293 => ?_; clear F291
              refine wpList_nil ?_
              refine hK287 _ _ ?_
              clear hK287
              refine wp_block ?_
              have hdir : dirs an nn = f0 := by rw [hp153, dirs_one (by omega), List.append_nil]
              have r294 := (own_grownT (own_ext r158 hx277) b284 hg283 (by decide))
              have hnf := Fl.boollen (Fl.own (S := fun b => w11.heap.size ≤ b) r294 (fun b hb => hb) (boolVals_one _))
              have b295 := ((b156.ext hx277).grownN hg283 (by omega))
              refine wp_loop (fun a' W => ∃ (k : Nat) (xx : List UInt8), Sl 81 [(0, (.agg (byteVals d).toArray)), (1, (.int .i64 (a0 : Nat))), (2, (.int .i64 (n0 : Nat))), (3, (.slice A p.length c)), (4, (.pointer (some ⟨g2, 0, none⟩))), (8, (.pointer (some ⟨g10, 0, none⟩))), (9, (.int .i64 0)), (28, (.bool (decide ((n : Int) ≤ (at_ : Int))))), (10, (.slice Af nf cf)), (31, (.bool (decide ((1 : Int) < ((n0 : Nat) : Int))))), (54, (.bool (decide (((p.length : Nat) : Int) ≠ ((nf : Nat) : Int))))), (58, (.slice A p.length c)), (59, (.int .i64 (p.length : Nat))), (60, (.int .i64 (k : Nat)))] a' ∧ k ≤ p.length ∧ xx.length = 32 ∧ xx = climbTo d f0 p k ∧ Ext w W ∧ Blk W g2 37 (byteVals d) ∧ Blk W g10 37 (byteVals xx) ∧ W.ownsRow w11.heap.size 4 1 (.slice Af nf cf) nf (boolVals f0) ∧ w11.heap.size ≤ W.heap.size ∧ w281.heap.size ≤ W.heap.size) (fun a' _ => p.length - (intOf (a'.eval (.tmp 60))).toNat) ⟨0, leafD d, ((((((((((((((F293.nil.cons (q_get F293 (t := 60) rfl (by first | rfl | (congr 1; omega) | (congr 1; done)))).cons (q_get F293 (t := 59) rfl rfl)).cons (q_get F293 (t := 58) rfl rfl)).cons (q_get F293 (t := 54) rfl rfl)).cons (q_get F293 (t := 31) rfl rfl)).cons (q_get F293 (t := 10) rfl rfl)).cons (q_get F293 (t := 28) rfl rfl)).cons (q_get F293 (t := 9) rfl rfl)).cons (q_get F293 (t := 8) rfl rfl)).cons (q_get F293 (t := 4) rfl rfl)).cons (q_get F293 (t := 3) rfl rfl)).cons (q_get F293 (t := 2) rfl rfl)).cons (q_get F293 (t := 1) rfl rfl)).cons (q_get F293 (t := 0) rfl rfl)), (by omega), (leafD_len _), rfl, ((((Ext.refl w).trans hx152).trans hx277).grownN hg283 (by omega)), b295, b282, r294, (by omega), (Nat.le_refl _)⟩ ?_
              clear F293
              rintro a296 w297 ⟨k, xx, F298, hp300, hp301, hp302, hx299, b303, b304, r305, hf306, hf307⟩
              have hL308 := F298
              have z309 := hx299.size
              have z310 := b303.lt
              have z311 := b304.lt
              have z312 := own_form0 r305
              have hxl : xx.length = 32 := hp301
              refine wp_seq_k (fun K313 hK313 => ?_)
              refine wp_region_lit ?_
              refine qv 0 (.bool (decide (((k : Nat) : Int) < ((p.length : Nat) : Int)))) F298 rfl (rn_lss (F298.get rfl) (F298.get rfl)) fun _ F315 => ?_; clear F298
              refine wpList_nil ?_
              refine hK313 _ _ ?_
              clear hK313
              refine wp_seq_k (fun K316 hK316 => ?_)
              by_cases hc317 : ((k : Nat) : Int) < ((p.length : Nat) : Int)
              · skip
                refine wp_cond_true (c_true F315 rfl (decide_eq_true hc317)) ?_
                refine wp_skip ?_
                refine hK316 _ _ ?_
                clear hK316
                refine wp_seq_k (fun K318 hK318 => ?_)
                refine wp_block ?_
                refine wp_seq_k (fun K319 hK319 => ?_)
                refine wp_region_lit ?_
                refine qv 0 (.int .i64 (k : Nat)) F315 rfl (rn_move (F315.get rfl)) fun _ F321 => ?_; clear F315
                have d325 := (hc.ext hx299)
                obtain ⟨b322, o323, hA324, -⟩ := Fl.at d325 (by omega)
                refine qv 1 (.pointer (some ⟨b322, o323 + k * 32, none⟩)) F321 rfl (rn_indexE Tryd.underlying28 inf37 ((F321.get rfl).trans (by rw [hA324])) (F321.get rfl) (by omega : (0 : Int) ≤ (k : Nat)) (by omega : ((k : Nat) : Int) < ((p.length : Nat) : Int)) (by omega)) fun _ F327 => ?_; clear F321
                refine qv 2 (.agg (byteVals (p.getD k [])).toArray) F327 rfl (rn_loadN (cs := byteVals (p.getD k [])) (F327.get rfl) Tryd.underlying37 rfl (inf37.trans (congrArg some (byteVals_len (dig_len h32 k (by omega))).symm)) (Fl.digAt d325 hA324 h32 (by omega))) fun _ F329 => ?_; clear F327
                refine wpl_op (i := 3) rfl (o_new (fun g => (.pointer (some ⟨g, 0, none⟩))) (byteVals (List.replicate 32 0)) 37 F329 rfl rfl rfl rfl (by kernel_rfl) ?_)
                intro g330 w331 a336 F337 z334 z335 b332 hx333; clear F329
                refine qv 4 (.int .i64 (k : Nat)) F337 rfl (rn_assign (F337.get rfl)) fun _ F339 => ?_; clear F337
                refine wpl_op (i := 5) rfl (o_store (cells := (byteVals (p.getD k []))) F339 rfl rfl rfl rfl (F339.get rfl) (F339.get rfl) b332 (inf37.trans (congrArg some (byteVals_len (dig_len h32 k (by omega))).symm)) ((byteVals_len (show List.length (List.replicate 32 0) = _ from List.length_replicate)).trans (byteVals_len (dig_len h32 k (by omega))).symm) (byteVals_one _) ?_)
                intro w340 b341 hg342; have z343 := hg342.size
                refine wpList_nil ?_
                refine hK319 _ _ ?_
                clear hK319
                refine wp_seq_k (fun K344 hK344 => ?_)
                refine wp_region_lit ?_
                refine qv 0 (.slice Af nf cf) F339 rfl (rn_move (F339.get rfl)) fun _ F346 => ?_; clear F339
                refine qv 1 (.slice Af nf cf) F346 rfl (rn_move (F346.get rfl)) fun _ F348 => ?_; clear F346
                refine qv 2 (.int .i64 (nf : Nat)) F348 rfl (rn_len_slice Tryd.underlying44 (F348.get rfl)) fun _ F350 => ?_; clear F348
                refine qv 3 (.int .i64 (nf - 1 : Nat)) F350 rfl (rn_subN (a := nf) (b := 1) (F350.get rfl) rfl (by omega) (by omega)) fun _ F352 => ?_; clear F350
                refine qv 4 (.int .i64 (k : Nat)) F352 rfl (rn_move (F352.get rfl)) fun _ F354 => ?_; clear F352
                refine qv 5 (.int .i64 ((nf - 1) - k : Nat)) F354 rfl (rn_subN (a := nf - 1) (b := k) (F354.get rfl) (F354.get rfl) (by omega) (by omega)) fun _ F356 => ?_; clear F354
                have r360 := (own_grownT (own_ext r305 hx333) b332 hg342 (by decide))
                have hf361 := (Fl.own (S := fun b => w11.heap.size ≤ b) r360 (fun b hb => hb) (boolVals_one _))
                obtain ⟨b357, o358, hA359, -⟩ := Fl.at hf361 (by omega)
                refine qv 6 (.pointer (some ⟨b357, o358 + ((nf - 1) - k), none⟩)) F356 rfl (rn_index1 Tryd.underlying44 inf4 ((F356.get rfl).trans (by rw [hA359])) (F356.get rfl) (by omega : (0 : Int) ≤ ((nf - 1) - k : Nat)) (by omega : (((nf - 1) - k : Nat) : Int) < ((nf : Nat) : Int))) fun _ F363 => ?_; clear F356
                refine qv 7 (.bool (f0.getD ((nf - 1) - k) false)) F363 rfl (rn_load (isAgg_no Tryd.underlying4 rfl) (F363.get rfl) (Fl.cellAt hf361 hA359 (boolVals_at (i := ((nf - 1) - k)) (by have := hnf; omega)))) fun _ F365 => ?_; clear F363
                refine wpList_nil ?_
                refine hK344 _ _ ?_
                clear hK344
                have F366 := ((((((((((((((((((F365.nil.c F365 72 rfl).c F365 12 rfl).c F365 13 rfl).c F365 61 rfl).c F365 60 rfl).c F365 59 rfl).c F365 58 rfl).c F365 54 rfl).c F365 31 rfl).c F365 10 rfl).c F365 28 rfl).c F365 9 rfl).c F365 8 rfl).c F365 4 rfl).c F365 3 rfl).c F365 2 rfl).c F365 1 rfl).c F365 0 rfl)
                clear F365
                rcases Bool.eq_false_or_eq_true (f0.getD ((nf - 1) - k) false) with hc367 | hc367
                · skip
                  refine wp_cond_true (c_true F366 rfl hc367) ?_
                  refine wp_region_lit ?_
                  have b368 := ((b304.ext hx333).grownN hg342 (by omega))
                  refine qv 0 (.agg (byteVals xx).toArray) F366 rfl (rn_loadBlk (F366.get rfl) b368 Tryd.underlying37 rfl (inf37.trans (congrArg some (byteVals_len hxl).symm))) fun _ F370 => ?_; clear F366
                  refine qv 1 (.agg (byteVals (p.getD k [])).toArray) F370 rfl (rn_loadBlk (F370.get rfl) b341 Tryd.underlying37 rfl (inf37.trans (congrArg some (byteVals_len (dig_len h32 k (by omega))).symm))) fun _ F372 => ?_; clear F370
                  refine wpl_op (i := 2) rfl (o_call F372 rfl rfl rfl rfl (rn_call (args2 (F372.get rfl) (F372.get rfl)) rfl (by kernel_rfl)) (node_any xx (p.getD k []) _ hxl (dig_len h32 k (by omega)) (hG.ext ((((Ext.refl w).trans hx299).trans hx333).grownN hg342 (by omega)))) ?_)
                  rintro _ w373 ⟨rfl, hx374⟩
                  refine ⟨_, rfl, ?_⟩; intro a375 F376; clear F372; have z377 := hx374.size
                  have b381 := (b368.ext hx374)
                  refine wpl_op (i := 3) rfl (o_store (cells := (byteVals (nodeD xx (p.getD k [])))) F376 rfl rfl rfl rfl (F376.get rfl) (F376.get rfl) b381 (inf37.trans (congrArg some (byteVals_len (nodeD_len _ _)).symm)) ((byteVals_len hxl).trans (byteVals_len (nodeD_len _ _)).symm) (byteVals_one _) ?_)
                  intro w378 b379 hg380; have z382 := hg380.size
                  refine wpList_nil ?_
                  refine hK318 _ _ ?_
                  clear hK318
                  refine wp_region_lit ?_
                  refine qv 0 (.int .i64 (k + 1 : Nat)) F376 rfl (rn_addN (a := k) (b := 1) (F376.get rfl) rfl (by omega)) fun _ F384 => ?_; clear F376
                  refine qv 1 (.int .i64 (k + 1 : Nat)) F384 rfl (rn_move (F384.get rfl)) fun _ F386 => ?_; clear F384
                  refine wpList_nil ?_
                  have b387 := ((((b303.ext hx333).grownN hg342 (by omega)).ext hx374).grownN hg380 (by omega))
                  have r388 := (own_grownT (own_ext r360 hx374) b381 hg380 (by decide))
                  refine ⟨⟨(k + 1), nodeD xx (p.getD k []), ((((((((((((((F386.nil.cons (q_get F386 (t := 60) rfl (by first | rfl | (congr 1; omega) | (congr 1; done)))).cons (q_get F386 (t := 59) rfl rfl)).cons (q_get F386 (t := 58) rfl rfl)).cons (q_get F386 (t := 54) rfl rfl)).cons (q_get F386 (t := 31) rfl rfl)).cons (q_get F386 (t := 10) rfl rfl)).cons (q_get F386 (t := 28) rfl rfl)).cons (q_get F386 (t := 9) rfl rfl)).cons (q_get F386 (t := 8) rfl rfl)).cons (q_get F386 (t := 4) rfl rfl)).cons (q_get F386 (t := 3) rfl rfl)).cons (q_get F386 (t := 2) rfl rfl)).cons (q_get F386 (t := 1) rfl rfl)).cons (q_get F386 (t := 0) rfl rfl)), (by omega), (nodeD_len _ _), (climbTo_t hp302 (by omega) (by omega) (by omega) hc367), ((((((Ext.refl w).trans hx299).trans hx333).grownN hg342 (by omega)).trans hx374).grownN hg380 (by omega)), b387, b379, r388, (by omega), (by omega)⟩, ?_⟩
                  rw [F386.get (t := 60) rfl, hL308.get (t := 60) rfl]; simp [intOf] <;> omega
                · skip
                  refine wp_cond_false (c_false F366 rfl hc367) ?_
                  refine wp_region_lit ?_
                  refine qv 0 (.agg (byteVals (p.getD k [])).toArray) F366 rfl (rn_loadBlk (F366.get rfl) b341 Tryd.underlying37 rfl (inf37.trans (congrArg some (byteVals_len (dig_len h32 k (by omega))).symm))) fun _ F390 => ?_; clear F366
                  have b391 := ((b304.ext hx333).grownN hg342 (by omega))
                  refine qv 1 (.agg (byteVals xx).toArray) F390 rfl (rn_loadBlk (F390.get rfl) b391 Tryd.underlying37 rfl (inf37.trans (congrArg some (byteVals_len hxl).symm))) fun _ F393 => ?_; clear F390
                  refine wpl_op (i := 2) rfl (o_call F393 rfl rfl rfl rfl (rn_call (args2 (F393.get rfl) (F393.get rfl)) rfl (by kernel_rfl)) (node_any (p.getD k []) xx _ (dig_len h32 k (by omega)) hxl (hG.ext ((((Ext.refl w).trans hx299).trans hx333).grownN hg342 (by omega)))) ?_)
                  rintro _ w394 ⟨rfl, hx395⟩
                  refine ⟨_, rfl, ?_⟩; intro a396 F397; clear F393; have z398 := hx395.size
                  have b402 := (b391.ext hx395)
                  refine wpl_op (i := 3) rfl (o_store (cells := (byteVals (nodeD (p.getD k []) xx))) F397 rfl rfl rfl rfl (F397.get rfl) (F397.get rfl) b402 (inf37.trans (congrArg some (byteVals_len (nodeD_len _ _)).symm)) ((byteVals_len hxl).trans (byteVals_len (nodeD_len _ _)).symm) (byteVals_one _) ?_)
                  intro w399 b400 hg401; have z403 := hg401.size
                  refine wpList_nil ?_
                  refine hK318 _ _ ?_
                  clear hK318
                  refine wp_region_lit ?_
                  refine qv 0 (.int .i64 (k + 1 : Nat)) F397 rfl (rn_addN (a := k) (b := 1) (F397.get rfl) rfl (by omega)) fun _ F405 => ?_; clear F397
                  refine qv 1 (.int .i64 (k + 1 : Nat)) F405 rfl (rn_move (F405.get rfl)) fun _ F407 => ?_; clear F405
                  refine wpList_nil ?_
                  have b408 := ((((b303.ext hx333).grownN hg342 (by omega)).ext hx395).grownN hg401 (by omega))
                  have r409 := (own_grownT (own_ext r360 hx395) b402 hg401 (by decide))
                  refine ⟨⟨(k + 1), nodeD (p.getD k []) xx, ((((((((((((((F407.nil.cons (q_get F407 (t := 60) rfl (by first | rfl | (congr 1; omega) | (congr 1; done)))).cons (q_get F407 (t := 59) rfl rfl)).cons (q_get F407 (t := 58) rfl rfl)).cons (q_get F407 (t := 54) rfl rfl)).cons (q_get F407 (t := 31) rfl rfl)).cons (q_get F407 (t := 10) rfl rfl)).cons (q_get F407 (t := 28) rfl rfl)).cons (q_get F407 (t := 9) rfl rfl)).cons (q_get F407 (t := 8) rfl rfl)).cons (q_get F407 (t := 4) rfl rfl)).cons (q_get F407 (t := 3) rfl rfl)).cons (q_get F407 (t := 2) rfl rfl)).cons (q_get F407 (t := 1) rfl rfl)).cons (q_get F407 (t := 0) rfl rfl)), (by omega), (nodeD_len _ _), (climbTo_f hp302 (by omega) (by omega) (by omega) hc367), ((((((Ext.refl w).trans hx299).trans hx333).grownN hg342 (by omega)).trans hx395).grownN hg401 (by omega)), b408, b400, r409, (by omega), (by omega)⟩, ?_⟩
                  rw [F407.get (t := 60) rfl, hL308.get (t := 60) rfl]; simp [intOf] <;> omega
              · skip
                refine wp_cond_false (c_false F315 rfl (decide_eq_false hc317)) ?_
                refine wp_exit ?_
                refine exit_then ?_
                refine exit_then ?_
                refine exit_here ?_
                refine hK286 _ _ ?_
                clear hK286
                refine wp_seq_k (fun K410 hK410 => ?_)
                refine wp_region_lit ?_
                refine qv 0 (.agg (byteVals xx).toArray) F315 rfl (rn_loadBlk (F315.get rfl) b304 Tryd.underlying37 rfl (inf37.trans (congrArg some (byteVals_len hxl).symm))) fun _ F412 => ?_; clear F315
                refine wpl_op (i := 1) rfl (o_store (cells := (byteVals xx)) F412 rfl rfl rfl rfl (F412.get rfl) (F412.get rfl) b304 (inf37.trans (congrArg some (byteVals_len hxl).symm)) ((byteVals_len hxl).trans (byteVals_len hxl).symm) (byteVals_one _) ?_)
                intro w413 b414 hg415; have z416 := hg415.size
                refine qv 2 (.int .i64 0) F412 rfl (rn_assign rfl) fun _ F418 => ?_; clear F412
                refine wpList_nil ?_
                refine hK410 _ _ ?_
                clear hK410
                refine wp_ret ?_
                refine retC1 F418 rfl rfl rfl b414 Tryd.underlying37 rfl (inf37.trans (congrArg some (byteVals_len hxl).symm)) ?_
                have hcl : climbF d at_ n p = (climbL nodeD leafD d an nn p, 0) := by rw [climbF, han, hnn, Int.toNat_natCast, Int.toNat_natCast, hdir, if_neg (by omega)]
                have hdone := climbTo_done hp302 (by omega) (by omega) hdir
                exact ⟨by rw [hcl, ← hdone], (((Ext.refl w).trans hx299).grownN hg415 (by omega))⟩

theorem climb_at {v : Value} {m : Nat} (d : List UInt8) (at_ n : Int) (p : List (List UInt8)) (w : World) (hd : d.length = 32) (h32 : All32 p) (hf : Fl S w 32 v m (digVals p)) (hG : Glob w) : Calls Tryd.prog 44 #[.agg (byteVals d).toArray, .int .i64 at_, .int .i64 n, v] w (fun e w' => e = .returned (.tuple #[.agg (byteVals (climbF d at_ n p).1).toArray, .int .i64 (climbF d at_ n p).2]) ∧ Ext w w') := by
  have hm := Fl.dlen hf h32
  subst hm
  obtain ⟨A, c, rfl, _⟩ := hf.form
  exact climb_any d at_ n A c p w hd h32 hf hG

end Go.Proofs.YtmjgjopbeokajaaDoor

namespace Go.Proofs.YtmjgjopbeokajaaDoor
open Go.RowKit

variable {S S' : Nat → Prop}

theorem pathD_one' {l : List (List UInt8)} {a : Nat} (h : l.length ≤ 1) : pathD l a = [] := by rw [pathD, path_one _ _ _ h]
theorem pathD_first' {l : List (List UInt8)} {a : Nat} (h : 2 ≤ l.length) (h2 : a < half l.length) : pathD l a = pathD (l.take (half l.length)) a ++ [treeD (l.drop (half l.length))] := by rw [pathD, path_first _ _ _ h h2]; rfl
theorem pathD_second' {l : List (List UInt8)} {a : Nat} (h : 2 ≤ l.length) (h2 : ¬ a < half l.length) : pathD l a = pathD (l.drop (half l.length)) (a - half l.length) ++ [treeD (l.take (half l.length))] := by rw [pathD, path_second _ _ _ h h2]; rfl
theorem dirs_le : ∀ (N a n : Nat), n ≤ N → (dirs a n).length ≤ n := by
  intro N
  induction N with
  | zero => intro a n h; rw [dirs_one (by omega)]; simp
  | succ N ih =>
    intro a n h
    by_cases h1 : n ≤ 1
    · rw [dirs_one h1]; simp
    · have hl := half_lt (n := n) (by omega)
      have hp := half_pos n
      by_cases h2 : a < half n
      · rw [dirs_first (by omega) h2]; have := ih a (half n) (by omega); simp; omega
      · rw [dirs_second (by omega) h2]; have := ih (a - half n) (n - half n) (by omega); simp; omega
theorem pathD_32 : ∀ (N : Nat) (l : List (List UInt8)) (a : Nat), l.length ≤ N → All32 (pathD l a) := by
  intro N
  induction N with
  | zero => intro l a h; rw [pathD_one' (by omega)]; exact All32.nil
  | succ N ih =>
    intro l a h
    by_cases h1 : l.length ≤ 1
    · rw [pathD_one' h1]; exact All32.nil
    · have hl := half_lt (n := l.length) (by omega)
      have hp := half_pos l.length
      by_cases h2 : a < half l.length
      · rw [pathD_first' (by omega) h2]; exact (ih _ _ (by rw [List.length_take]; omega)).app (All32.sing (treeD_len _))
      · rw [pathD_second' (by omega) h2]; exact (ih _ _ (by rw [List.length_drop]; omega)).app (All32.sing (treeD_len _))

theorem climb_one' {d : List UInt8} {a n : Nat} {p : List (List UInt8)} (h : n ≤ 1) : climbL nodeD leafD d a n p = leafD d := by rw [climbL, dirs_one h]; simp
theorem climbL_len (d : List UInt8) (a n : Nat) (p : List (List UInt8)) : (climbL nodeD leafD d a n p).length = 32 := by
  unfold climbL
  generalize p.zip (dirs a n).reverse = l
  have : ∀ (l : List (List UInt8 × Bool)) (x : List UInt8), x.length = 32 → (l.foldl (step1 nodeD) x).length = 32 := by
    intro l
    induction l with
    | nil => intro x h; exact h
    | cons q l ih => intro x h; exact ih _ (by unfold step1; split <;> exact nodeD_len _ _)
  exact this l _ (leafD_len d)
end Go.Proofs.YtmjgjopbeokajaaDoor
