/- The law DigestSumSpec walked. -/
import Derived.Test.YtgodliookpgliaaDoorProg
import Derived.Test.YtgodliookpgliaaDoorLawB3
import Derived.Test.YtgodliookpgliaaDoorWk11
import Derived.Test.YtgodliookpgliaaDoorRefF3
import Derived.KernelRfl
namespace Go.Proofs.YtgodliookpgliaaDoor
open Go.RowKit

variable {S S' : Nat → Prop}

set_option maxRecDepth 100000 in
set_option maxHeartbeats 1000000 in
theorem sumspec_any (A : Option Addr) (c : Nat) (b tag : List UInt8) (many : UInt8) (w : World) (hf : Fl S w 1 (.slice A b.length c) b.length (byteVals b)) (hG : Glob w) (htl : tag.length ≤ 9223372036854775807) :
    Calls Tryd.prog 3 #[.slice A b.length c, strOf tag, .int .u8 (many.toNat : Nat)] w (fun e w' => e = .returned (.bool true) ∧ Ext w w') := by
  have hc : Fl (Clip S w) w 1 (.slice A b.length c) b.length (byteVals b) := hf.clip
  have hcc := (Fl.cel hc).2.1
  refine calls_enter (l := [(.slice A b.length c), (strOf tag), (.int .u8 (many.toNat : Nat))]) Tryd.func3 rfl rfl rfl (fun aA hF => ?_)
  refine wp_seq_k (fun K1 hK1 => ?_)
  refine wp_region_lit ?_
  refine wpl_op (i := 0) rfl (o_val (v := (.bool false)) hF rfl rfl rfl rfl (rn_assign rfl) ?_)
  intro a2 hF3; clear hF
  refine wpList_nil ?_
  refine hK1 _ _ ?_
  clear hK1
  refine wp_seq_k (fun K4 hK4 => ?_)
  refine wp_seq_k (fun K5 hK5 => ?_)
  refine wp_region_lit ?_
  refine wpl_op (i := 0) rfl (o_call hF3 rfl rfl rfl rfl (rn_call (args0 ) rfl (by kernel_rfl)) (sane_any _ (hG.ext (Ext.refl w))) ?_)
  rintro _ w6 ⟨rfl, hx7⟩
  refine ⟨_, rfl, ?_⟩; intro a8 hF9; clear hF3; have z10 := hx7.size
  refine wpl_op (i := 1) rfl (o_val (v := (.bool false)) hF9 rfl rfl rfl rfl (rn_not' (hF9.get rfl) rfl) ?_)
  intro a11 hF12; clear hF9
  refine wpList_nil ?_
  refine hK5 _ _ ?_
  clear hK5
  refine wp_cond_false (c_false hF12 rfl rfl) ?_
  refine wp_skip ?_
  refine hK4 _ _ ?_
  clear hK4
  refine wp_seq_k (fun K13 hK13 => ?_)
  refine wp_seq_k (fun K14 hK14 => ?_)
  refine wp_region_lit ?_
  refine wpl_op (i := 0) rfl (o_val (v := (.slice A b.length c)) hF12 rfl rfl rfl rfl (rn_move (hF12.get rfl)) ?_)
  intro a15 hF16; clear hF12
  refine wpl_op (i := 1) rfl (o_val (v := (.int .i64 (b.length : Nat))) hF16 rfl rfl rfl rfl (rn_len_slice Tryd.underlying22 (hF16.get rfl)) ?_)
  intro a17 hF18; clear hF16
  refine wpl_op (i := 2) rfl (o_val (v := (.bool (decide ((300 : Int) < ((b.length : Nat) : Int))))) hF18 rfl rfl rfl rfl (rn_gtr (hF18.get rfl) rfl) ?_)
  intro a19 hF20; clear hF18
  refine wpl_op (i := 3) rfl (o_val (v := (.bool (decide ((300 : Int) < ((b.length : Nat) : Int))))) hF20 rfl rfl rfl rfl (rn_move (hF20.get rfl)) ?_)
  intro a21 hF22; clear hF20
  by_cases hc23 : (300 : Int) < ((b.length : Nat) : Int)
  · skip
    refine wpl_op (i := 4) rfl (o_skip hF22 rfl (unwanted_guard rfl rfl rfl hF22 rfl (decide_eq_true hc23) rfl) rfl rfl ?_)
    intro a24 hF25; clear hF22
    refine wpl_op (i := 5) rfl (o_skip hF25 rfl (unwanted_guard rfl rfl rfl hF25 rfl (decide_eq_true hc23) rfl) rfl rfl ?_)
    intro a26 hF27; clear hF25
    refine wpl_op (i := 6) rfl (o_skip hF27 rfl (unwanted_guard rfl rfl rfl hF27 rfl (decide_eq_true hc23) rfl) rfl rfl ?_)
    intro a28 hF29; clear hF27
    refine wpl_op (i := 7) rfl (o_val (v := (.bool true)) hF29 rfl rfl rfl rfl (rn_pickT (c_true hF29 rfl (decide_eq_true hc23)) rfl) ?_)
    intro a30 hF31; clear hF29
    refine wpList_nil ?_
    refine hK14 _ _ ?_
    clear hK14
    have hF32 := ((((((hF31.nil.cons (hF31.get (t := 20) (v := (.bool true)) rfl)).cons (hF31.get (t := 12) (v := (.bool false)) rfl)).cons (hF31.get (t := 6) (v := (.bool false)) rfl)).cons (hF31.get (t := 2) (v := (.int .u8 (many.toNat : Nat))) rfl)).cons (hF31.get (t := 1) (v := (strOf tag)) rfl)).cons (hF31.get (t := 0) (v := (.slice A b.length c)) rfl))
    clear hF31
    refine wp_cond_true (c_true hF32 rfl rfl) ?_
    refine wp_seq_k (fun K33 hK33 => ?_)
    refine wp_region_lit ?_
    refine wpl_op (i := 0) rfl (o_val (v := (.bool true)) hF32 rfl rfl rfl rfl (rn_assign rfl) ?_)
    intro a34 hF35; clear hF32
    refine wpList_nil ?_
    refine hK33 _ _ ?_
    clear hK33
    refine wp_ret ?_
    refine ret_then ?_
    refine ret1 hF35 rfl rfl ?_
    exact ⟨congrArg (fun b => Ending.returned (.bool b)) (rfl : true = true), ((Ext.refl w).trans hx7)⟩
  · skip
    refine wpl_op (i := 4) rfl (o_val (v := (strOf tag)) hF22 rfl (wanted_guard rfl rfl rfl hF22 rfl (decide_eq_false hc23) rfl) rfl rfl (rn_move (hF22.get rfl)) ?_)
    intro a36 hF37; clear hF22
    refine wpl_op (i := 5) rfl (o_val (v := (.int .i64 (tag.length : Nat))) hF37 rfl (wanted_guard rfl rfl rfl hF37 rfl (decide_eq_false hc23) rfl) rfl rfl (rn_lenS Tryd.underlying9 (hF37.get rfl)) ?_)
    intro a38 hF39; clear hF37
    refine wpl_op (i := 6) rfl (o_val (v := (.bool (decide ((300 : Int) < ((tag.length : Nat) : Int))))) hF39 rfl (wanted_guard rfl rfl rfl hF39 rfl (decide_eq_false hc23) rfl) rfl rfl (rn_gtr (hF39.get rfl) rfl) ?_)
    intro a40 hF41; clear hF39
    refine wpl_op (i := 7) rfl (o_val (v := (.bool (decide ((300 : Int) < ((tag.length : Nat) : Int))))) hF41 rfl rfl rfl rfl (rn_pickF (c_false hF41 rfl (decide_eq_false hc23)) (hF41.get rfl)) ?_)
    intro a42 hF43; clear hF41
    refine wpList_nil ?_
    refine hK14 _ _ ?_
    clear hK14
    have hF44 := ((((((hF43.nil.cons (hF43.get (t := 20) (v := (.bool (decide ((300 : Int) < ((tag.length : Nat) : Int))))) rfl)).cons (hF43.get (t := 12) (v := (.bool false)) rfl)).cons (hF43.get (t := 6) (v := (.bool false)) rfl)).cons (hF43.get (t := 2) (v := (.int .u8 (many.toNat : Nat))) rfl)).cons (hF43.get (t := 1) (v := (strOf tag)) rfl)).cons (hF43.get (t := 0) (v := (.slice A b.length c)) rfl))
    clear hF43
    by_cases hc45 : (300 : Int) < ((tag.length : Nat) : Int)
    · skip
      refine wp_cond_true (c_true hF44 rfl (decide_eq_true hc45)) ?_
      refine wp_seq_k (fun K46 hK46 => ?_)
      refine wp_region_lit ?_
      refine wpl_op (i := 0) rfl (o_val (v := (.bool true)) hF44 rfl rfl rfl rfl (rn_assign rfl) ?_)
      intro a47 hF48; clear hF44
      refine wpList_nil ?_
      refine hK46 _ _ ?_
      clear hK46
      refine wp_ret ?_
      refine ret_then ?_
      refine ret1 hF48 rfl rfl ?_
      exact ⟨congrArg (fun b => Ending.returned (.bool b)) (rfl : true = true), ((Ext.refl w).trans hx7)⟩
    · skip
      refine wp_cond_false (c_false hF44 rfl (decide_eq_false hc45)) ?_
      refine wp_skip ?_
      refine hK13 _ _ ?_
      clear hK13
      refine wp_seq_k (fun K49 hK49 => ?_)
      refine wp_region_lit ?_
      refine wpl_op (i := 0) rfl (o_val (v := (.int .u8 (many.toNat : Nat))) hF44 rfl rfl rfl rfl (rn_move (hF44.get rfl)) ?_)
      intro a50 hF51; clear hF44
      have z52 := UInt8.toNat_lt many
      refine wpl_op (i := 1) rfl (o_val (v := (.int .i64 (many.toNat : Nat))) hF51 rfl rfl rfl rfl (rn_convW Tryd.underlying5 Tryd.underlying3 (hF51.get rfl) (cv8_64 many)) ?_)
      intro a53 hF54; clear hF51
      refine wpl_op (i := 2) rfl (o_val (v := (.int .i64 (many.toNat + 1 : Nat))) hF54 rfl rfl rfl rfl (rn_addN (a := many.toNat) (b := 1) (hF54.get rfl) rfl (by omega)) ?_)
      intro a55 hF56; clear hF54
      refine wpl_op (i := 3) rfl (o_new (fun g => (.slice (some ⟨g, 0, none⟩) (many.toNat + 1) (many.toNat + 1))) (byteVals (List.replicate (many.toNat + 1) 0)) 5 hF56 rfl rfl rfl rfl (rn_makeN El22 rfl (hF56.get rfl) (hF56.get rfl) (by omega) (by omega) (by simp [byteVals])) ?_)
      intro g57 w58 a63 hF64 z61 z62 b59 hx60; clear hF56
      refine wpl_op (i := 4) rfl (o_val (v := (.slice (some ⟨g57, 0, none⟩) (many.toNat + 1) (many.toNat + 1))) hF64 rfl rfl rfl rfl (rn_assign (hF64.get rfl)) ?_)
      intro a65 hF66; clear hF64
      refine wpList_nil ?_
      refine hK49 _ _ ?_
      clear hK49
      have hF67 := (((((((hF66.nil.cons (hF66.get (t := 7) (v := (.slice (some ⟨g57, 0, none⟩) (many.toNat + 1) (many.toNat + 1))) rfl)).cons (hF66.get (t := 20) (v := (.bool (decide ((300 : Int) < ((tag.length : Nat) : Int))))) rfl)).cons (hF66.get (t := 12) (v := (.bool false)) rfl)).cons (hF66.get (t := 6) (v := (.bool false)) rfl)).cons (hF66.get (t := 2) (v := (.int .u8 (many.toNat : Nat))) rfl)).cons (hF66.get (t := 1) (v := (strOf tag)) rfl)).cons (hF66.get (t := 0) (v := (.slice A b.length c)) rfl))
      clear hF66
      refine wp_seq_k (fun K68 hK68 => ?_)
      refine wp_seq_k (fun K69 hK69 => ?_)
      refine wp_region_lit ?_
      refine wpl_op (i := 0) rfl (o_val (v := (.slice (some ⟨g57, 0, none⟩) (many.toNat + 1) (many.toNat + 1))) hF67 rfl rfl rfl rfl (rn_move (hF67.get rfl)) ?_)
      intro a70 hF71; clear hF67
      refine wpl_op (i := 1) rfl (o_val (v := (.int .i64 (many.toNat + 1 : Nat))) hF71 rfl rfl rfl rfl (rn_len_slice Tryd.underlying22 (hF71.get rfl)) ?_)
      intro a72 hF73; clear hF71
      refine wpl_op (i := 2) rfl (o_val (v := (.int .i64 0)) hF73 rfl rfl rfl rfl (rn_move rfl) ?_)
      intro a74 hF75; clear hF73
      refine wpList_nil ?_
      refine hK69 _ _ ?_
      clear hK69
      refine wp_block ?_
      refine wp_loop (fun a' W => ∃ (k : Nat) (ll : List UInt8), Sl 72 [(0, (.slice A b.length c)), (1, (strOf tag)), (2, (.int .u8 (many.toNat : Nat))), (6, (.bool false)), (12, (.bool false)), (20, (.bool (decide ((300 : Int) < ((tag.length : Nat) : Int))))), (7, (.slice (some ⟨g57, 0, none⟩) (many.toNat + 1) (many.toNat + 1))), (26, (.int .i64 (many.toNat + 1 : Nat))), (27, (.int .i64 (k : Nat)))] a' ∧ k ≤ many.toNat + 1 ∧ ll.length = many.toNat + 1 ∧ Ext w W ∧ Blk W g57 5 (byteVals ll) ∧ w58.heap.size ≤ W.heap.size) (fun a' _ => many.toNat + 1 - (intOf (a'.eval (.tmp 27))).toNat) ⟨0, List.replicate (many.toNat + 1) 0, (((((((((hF75.nil.cons (q_get hF75 (t := 27) rfl (by first | rfl | (congr 1; omega) | (congr 1; done)))).cons (q_get hF75 (t := 26) rfl rfl)).cons (q_get hF75 (t := 7) rfl rfl)).cons (q_get hF75 (t := 20) rfl rfl)).cons (q_get hF75 (t := 12) rfl rfl)).cons (q_get hF75 (t := 6) rfl rfl)).cons (q_get hF75 (t := 2) rfl rfl)).cons (q_get hF75 (t := 1) rfl rfl)).cons (q_get hF75 (t := 0) rfl rfl)), (by omega), (List.length_replicate (n := many.toNat + 1) (a := (0 : UInt8))), (((Ext.refl w).trans hx7).trans hx60), b59, (Nat.le_refl _)⟩ ?_
      clear hF75
      rintro a76 w77 ⟨k, ll, hF78, hp80, hp81, hx79, b82, hf83⟩
      have hL84 := hF78
      have z85 := hx79.size
      have z86 := b82.lt
      refine wp_seq_k (fun K87 hK87 => ?_)
      refine wp_region_lit ?_
      refine wpl_op (i := 0) rfl (o_val (v := (.bool (decide (((k : Nat) : Int) < ((many.toNat + 1 : Nat) : Int))))) hF78 rfl rfl rfl rfl (rn_lss (hF78.get rfl) (hF78.get rfl)) ?_)
      intro a88 hF89; clear hF78
      refine wpList_nil ?_
      refine hK87 _ _ ?_
      clear hK87
      refine wp_seq_k (fun K90 hK90 => ?_)
      by_cases hc91 : ((k : Nat) : Int) < ((many.toNat + 1 : Nat) : Int)
      · skip
        refine wp_cond_true (c_true hF89 rfl (decide_eq_true hc91)) ?_
        refine wp_skip ?_
        refine hK90 _ _ ?_
        clear hK90
        refine wp_seq_k (fun K92 hK92 => ?_)
        refine wp_block ?_
        refine wp_seq_k (fun K93 hK93 => ?_)
        refine wp_region_lit ?_
        refine wpl_op (i := 0) rfl (o_val (v := (.int .i64 (k : Nat))) hF89 rfl rfl rfl rfl (rn_move (hF89.get rfl)) ?_)
        intro a94 hF95; clear hF89
        refine wpl_op (i := 1) rfl (o_val (v := (.int .i64 (k : Nat))) hF95 rfl rfl rfl rfl (rn_assign (hF95.get rfl)) ?_)
        intro a96 hF97; clear hF95
        refine wpList_nil ?_
        refine hK93 _ _ ?_
        clear hK93
        refine wp_seq_k (fun K98 hK98 => ?_)
        refine wp_region_lit ?_
        refine wpl_op (i := 0) rfl (o_val (v := (.slice (some ⟨g57, 0, none⟩) (many.toNat + 1) (many.toNat + 1))) hF97 rfl rfl rfl rfl (rn_move (hF97.get rfl)) ?_)
        intro a99 hF100; clear hF97
        refine wpl_op (i := 1) rfl (o_val (v := (.int .i64 (k : Nat))) hF100 rfl rfl rfl rfl (rn_move (hF100.get rfl)) ?_)
        intro a101 hF102; clear hF100
        refine wpl_op (i := 2) rfl (o_val (v := (.int .i64 (k : Nat))) hF102 rfl rfl rfl rfl (rn_move (hF102.get rfl)) ?_)
        intro a103 hF104; clear hF102
        refine wpl_op (i := 3) rfl (o_val (v := (.int .u8 ((UInt8.ofNat k).toNat : Nat))) hF104 rfl rfl rfl rfl (rn_convW Tryd.underlying3 Tryd.underlying5 (hF104.get rfl) (cvi_8 k)) ?_)
        intro a105 hF106; clear hF104
        refine wpl_op (i := 4) rfl (o_val (v := (.pointer (some ⟨g57, 0 + k, none⟩))) hF106 rfl rfl rfl rfl (rn_index1 Tryd.underlying22 (by kernel_rfl : (Tryd.prog.info? 5).map (·.size) = some 1) (hF106.get rfl) (hF106.get rfl) (by omega : (0 : Int) ≤ (k : Nat)) (by omega : ((k : Nat) : Int) < ((many.toNat + 1 : Nat) : Int))) ?_)
        intro a107 hF108; clear hF106
        refine wpl_op (i := 5) rfl (o_store1 (new := (byteVals (ll.set k (UInt8.ofNat k)))) hF108 rfl rfl rfl rfl (hF108.get rfl) (hF108.get rfl) b82 (by kernel_rfl : (Tryd.prog.info? 5).map (·.size) = some 1) (by rw [byteVals_len hp81]; omega) rfl (byteVals_set (by omega)) ?_)
        intro w109 b110 hg111; have z112 := hg111.size
        refine wpList_nil ?_
        refine hK98 _ _ ?_
        clear hK98
        have hF113 := (((((((((((hF108.nil.cons (hF108.get (t := 8) (v := (.int .i64 (k : Nat))) rfl)).cons (hF108.get (t := 28) (v := (.bool (decide (((k : Nat) : Int) < ((many.toNat + 1 : Nat) : Int))))) rfl)).cons (hF108.get (t := 27) (v := (.int .i64 (k : Nat))) rfl)).cons (hF108.get (t := 26) (v := (.int .i64 (many.toNat + 1 : Nat))) rfl)).cons (hF108.get (t := 7) (v := (.slice (some ⟨g57, 0, none⟩) (many.toNat + 1) (many.toNat + 1))) rfl)).cons (hF108.get (t := 20) (v := (.bool (decide ((300 : Int) < ((tag.length : Nat) : Int))))) rfl)).cons (hF108.get (t := 12) (v := (.bool false)) rfl)).cons (hF108.get (t := 6) (v := (.bool false)) rfl)).cons (hF108.get (t := 2) (v := (.int .u8 (many.toNat : Nat))) rfl)).cons (hF108.get (t := 1) (v := (strOf tag)) rfl)).cons (hF108.get (t := 0) (v := (.slice A b.length c)) rfl))
        clear hF108
        refine wp_seq_k (fun K114 hK114 => ?_)
        refine wp_region_lit ?_
        refine wpl_op (i := 0) rfl (o_val (v := (.slice A b.length c)) hF113 rfl rfl rfl rfl (rn_move (hF113.get rfl)) ?_)
        intro a115 hF116; clear hF113
        refine wpl_op (i := 1) rfl (o_val (v := (.int .i64 (b.length : Nat))) hF116 rfl rfl rfl rfl (rn_len_slice Tryd.underlying22 (hF116.get rfl)) ?_)
        intro a117 hF118; clear hF116
        refine wpl_op (i := 2) rfl (o_val (v := (.bool (decide ((0 : Int) < ((b.length : Nat) : Int))))) hF118 rfl rfl rfl rfl (rn_gtr (hF118.get rfl) rfl) ?_)
        intro a119 hF120; clear hF118
        refine wpList_nil ?_
        refine hK114 _ _ ?_
        clear hK114
        by_cases hc121 : (0 : Int) < ((b.length : Nat) : Int)
        · skip
          refine wp_cond_true (c_true hF120 rfl (decide_eq_true hc121)) ?_
          refine wp_region_lit ?_
          refine wpl_op (i := 0) rfl (o_val (v := (.slice (some ⟨g57, 0, none⟩) (many.toNat + 1) (many.toNat + 1))) hF120 rfl rfl rfl rfl (rn_move (hF120.get rfl)) ?_)
          intro a122 hF123; clear hF120
          refine wpl_op (i := 1) rfl (o_val (v := (.int .i64 (k : Nat))) hF123 rfl rfl rfl rfl (rn_move (hF123.get rfl)) ?_)
          intro a124 hF125; clear hF123
          refine wpl_op (i := 2) rfl (o_val (v := (.slice A b.length c)) hF125 rfl rfl rfl rfl (rn_move (hF125.get rfl)) ?_)
          intro a126 hF127; clear hF125
          refine wpl_op (i := 3) rfl (o_val (v := (.int .i64 (k : Nat))) hF127 rfl rfl rfl rfl (rn_move (hF127.get rfl)) ?_)
          intro a128 hF129; clear hF127
          refine wpl_op (i := 4) rfl (o_val (v := (.slice A b.length c)) hF129 rfl rfl rfl rfl (rn_move (hF129.get rfl)) ?_)
          intro a130 hF131; clear hF129
          refine wpl_op (i := 5) rfl (o_val (v := (.int .i64 (b.length : Nat))) hF131 rfl rfl rfl rfl (rn_len_slice Tryd.underlying22 (hF131.get rfl)) ?_)
          intro a132 hF133; clear hF131
          have z134 := Nat.mod_lt k (show 0 < b.length by omega)
          refine wpl_op (i := 6) rfl (o_val (v := (.int .i64 (k % b.length : Nat))) hF133 rfl rfl rfl rfl (rn_remN (a := k) (b := b.length) (hF133.get rfl) (hF133.get rfl) (by omega)) ?_)
          intro a135 hF136; clear hF133
          have d140 := (hc.pres (((Pres.refl w).ext hx79).grownN hg111 (fun h => by simp only [Clip] at h; omega)))
          obtain ⟨b137, o138, hA139, -⟩ := Fl.at d140 (by omega)
          refine wpl_op (i := 7) rfl (o_val (v := (.pointer (some ⟨b137, o138 + (k % b.length), none⟩))) hF136 rfl rfl rfl rfl (rn_index1 Tryd.underlying22 (by kernel_rfl : (Tryd.prog.info? 5).map (·.size) = some 1) ((hF136.get rfl).trans (by rw [hA139])) (hF136.get rfl) (by omega : (0 : Int) ≤ (k % b.length : Nat)) (by omega : ((k % b.length : Nat) : Int) < ((b.length : Nat) : Int))) ?_)
          intro a141 hF142; clear hF136
          refine wpl_op (i := 8) rfl (o_val (v := (.int .u8 ((b.getD (k % b.length) 0).toNat : Nat))) hF142 rfl rfl rfl rfl (rn_load (isAgg_no Tryd.underlying5 rfl) (hF142.get rfl) (Fl.cellAt d140 hA139 (byteVals_at (i := (k % b.length)) (by omega)))) ?_)
          intro a143 hF144; clear hF142
          refine wpl_op (i := 9) rfl (o_val (v := (.pointer (some ⟨g57, 0 + k, none⟩))) hF144 rfl rfl rfl rfl (rn_index1 Tryd.underlying22 (by kernel_rfl : (Tryd.prog.info? 5).map (·.size) = some 1) (hF144.get rfl) (hF144.get rfl) (by omega : (0 : Int) ≤ (k : Nat)) (by omega : ((k : Nat) : Int) < ((many.toNat + 1 : Nat) : Int))) ?_)
          intro a145 hF146; clear hF144
          refine wpl_op (i := 10) rfl (o_store1 (new := (byteVals ((ll.set k (UInt8.ofNat k)).set k (b.getD (k % b.length) 0)))) hF146 rfl rfl rfl rfl (hF146.get rfl) (hF146.get rfl) b110 (by kernel_rfl : (Tryd.prog.info? 5).map (·.size) = some 1) (by rw [byteVals_len (show List.length (ll.set k (UInt8.ofNat k)) = _ from List.length_set.trans hp81)]; omega) rfl (byteVals_set (by omega)) ?_)
          intro w147 b148 hg149; have z150 := hg149.size
          refine wpList_nil ?_
          refine hK92 _ _ ?_
          clear hK92
          have hF151 := ((((((((((((hF146.nil.cons (hF146.get (t := 37) (v := (.bool (decide ((0 : Int) < ((b.length : Nat) : Int))))) rfl)).cons (hF146.get (t := 8) (v := (.int .i64 (k : Nat))) rfl)).cons (hF146.get (t := 28) (v := (.bool (decide (((k : Nat) : Int) < ((many.toNat + 1 : Nat) : Int))))) rfl)).cons (hF146.get (t := 27) (v := (.int .i64 (k : Nat))) rfl)).cons (hF146.get (t := 26) (v := (.int .i64 (many.toNat + 1 : Nat))) rfl)).cons (hF146.get (t := 7) (v := (.slice (some ⟨g57, 0, none⟩) (many.toNat + 1) (many.toNat + 1))) rfl)).cons (hF146.get (t := 20) (v := (.bool (decide ((300 : Int) < ((tag.length : Nat) : Int))))) rfl)).cons (hF146.get (t := 12) (v := (.bool false)) rfl)).cons (hF146.get (t := 6) (v := (.bool false)) rfl)).cons (hF146.get (t := 2) (v := (.int .u8 (many.toNat : Nat))) rfl)).cons (hF146.get (t := 1) (v := (strOf tag)) rfl)).cons (hF146.get (t := 0) (v := (.slice A b.length c)) rfl))
          clear hF146
          refine wp_region_lit ?_
          refine wpl_op (i := 0) rfl (o_val (v := (.int .i64 (k + 1 : Nat))) hF151 rfl rfl rfl rfl (rn_addN (a := k) (b := 1) (hF151.get rfl) rfl (by omega)) ?_)
          intro a152 hF153; clear hF151
          refine wpl_op (i := 1) rfl (o_val (v := (.int .i64 (k + 1 : Nat))) hF153 rfl rfl rfl rfl (rn_move (hF153.get rfl)) ?_)
          intro a154 hF155; clear hF153
          refine wpList_nil ?_
          refine ⟨⟨(k + 1), (ll.set k (UInt8.ofNat k)).set k (b.getD (k % b.length) 0), (((((((((hF155.nil.cons (q_get hF155 (t := 27) rfl (by first | rfl | (congr 1; omega) | (congr 1; done)))).cons (q_get hF155 (t := 26) rfl rfl)).cons (q_get hF155 (t := 7) rfl rfl)).cons (q_get hF155 (t := 20) rfl rfl)).cons (q_get hF155 (t := 12) rfl rfl)).cons (q_get hF155 (t := 6) rfl rfl)).cons (q_get hF155 (t := 2) rfl rfl)).cons (q_get hF155 (t := 1) rfl rfl)).cons (q_get hF155 (t := 0) rfl rfl)), (by omega), (show List.length ((ll.set k (UInt8.ofNat k)).set k (b.getD (k % b.length) 0)) = _ from List.length_set.trans (show List.length (ll.set k (UInt8.ofNat k)) = _ from List.length_set.trans hp81)), ((((Ext.refl w).trans hx79).grownN hg111 (by omega)).grownN hg149 (by omega)), b148, (by omega)⟩, ?_⟩
          rw [hF155.get (t := 27) rfl, hL84.get (t := 27) rfl]; simp [intOf] <;> omega
        · skip
          refine wp_cond_false (c_false hF120 rfl (decide_eq_false hc121)) ?_
          refine wp_skip ?_
          refine hK92 _ _ ?_
          clear hK92
          refine wp_region_lit ?_
          refine wpl_op (i := 0) rfl (o_val (v := (.int .i64 (k + 1 : Nat))) hF120 rfl rfl rfl rfl (rn_addN (a := k) (b := 1) (hF120.get rfl) rfl (by omega)) ?_)
          intro a156 hF157; clear hF120
          refine wpl_op (i := 1) rfl (o_val (v := (.int .i64 (k + 1 : Nat))) hF157 rfl rfl rfl rfl (rn_move (hF157.get rfl)) ?_)
          intro a158 hF159; clear hF157
          refine wpList_nil ?_
          refine ⟨⟨(k + 1), ll.set k (UInt8.ofNat k), (((((((((hF159.nil.cons (q_get hF159 (t := 27) rfl (by first | rfl | (congr 1; omega) | (congr 1; done)))).cons (q_get hF159 (t := 26) rfl rfl)).cons (q_get hF159 (t := 7) rfl rfl)).cons (q_get hF159 (t := 20) rfl rfl)).cons (q_get hF159 (t := 12) rfl rfl)).cons (q_get hF159 (t := 6) rfl rfl)).cons (q_get hF159 (t := 2) rfl rfl)).cons (q_get hF159 (t := 1) rfl rfl)).cons (q_get hF159 (t := 0) rfl rfl)), (by omega), (show List.length (ll.set k (UInt8.ofNat k)) = _ from List.length_set.trans hp81), (((Ext.refl w).trans hx79).grownN hg111 (by omega)), b110, (by omega)⟩, ?_⟩
          rw [hF159.get (t := 27) rfl, hL84.get (t := 27) rfl]; simp [intOf] <;> omega
      · skip
        refine wp_cond_false (c_false hF89 rfl (decide_eq_false hc91)) ?_
        refine wp_exit ?_
        refine exit_then ?_
        refine exit_then ?_
        refine exit_here ?_
        refine hK68 _ _ ?_
        clear hK68
        refine wp_seq_k (fun K160 hK160 => ?_)
        refine wp_seq_k (fun K161 hK161 => ?_)
        refine wp_region_lit ?_
        refine wpl_op (i := 0) rfl (o_val (v := (.slice A b.length c)) hF89 rfl rfl rfl rfl (rn_move (hF89.get rfl)) ?_)
        intro a162 hF163; clear hF89
        refine wpl_op (i := 1) rfl (o_val (v := (.slice (some ⟨g57, 0, none⟩) (many.toNat + 1) (many.toNat + 1))) hF163 rfl rfl rfl rfl (rn_move (hF163.get rfl)) ?_)
        intro a164 hF165; clear hF163
        refine wpl_op (i := 2) rfl (o_new (fun g => (.slice (some ⟨g, 0, none⟩) 2 2)) [(.slice A b.length c), (.slice (some ⟨g57, 0, none⟩) (many.toNat + 1) (many.toNat + 1))] 22 hF165 rfl rfl rfl rfl (rn_buildSlice (parts2 (hF165.get rfl) (hF165.get rfl)) (by kernel_rfl)) ?_)
        intro g166 w167 a172 hF173 z170 z171 b168 hx169; clear hF165
        refine wpl_op (i := 3) rfl (o_val (v := (.int .i64 2)) hF173 rfl rfl rfl rfl (rn_len_slice Tryd.underlying24 (hF173.get rfl)) ?_)
        intro a174 hF175; clear hF173
        refine wpl_op (i := 4) rfl (o_val (v := (.int .i64 0)) hF175 rfl rfl rfl rfl (rn_move rfl) ?_)
        intro a176 hF177; clear hF175
        refine wpList_nil ?_
        refine hK161 _ _ ?_
        clear hK161
        refine wp_block ?_
        have b179 : Blk w167 g57 5 (byteVals ll) := (b82.ext hx169)
        refine wp_loop (fun a' W => ∃ (kc178 : Nat), Sl 72 [(0, (.slice A b.length c)), (1, (strOf tag)), (2, (.int .u8 (many.toNat : Nat))), (6, (.bool false)), (12, (.bool false)), (20, (.bool (decide ((300 : Int) < ((tag.length : Nat) : Int))))), (7, (.slice (some ⟨g57, 0, none⟩) (many.toNat + 1) (many.toNat + 1))), (26, (.int .i64 (many.toNat + 1 : Nat))), (27, (.int .i64 (k : Nat))), (28, (.bool (decide (((k : Nat) : Int) < ((many.toNat + 1 : Nat) : Int))))), (51, (.slice (some ⟨g166, 0, none⟩) 2 2)), (52, (.int .i64 2)), (53, (.int .i64 (kc178 : Nat)))] a' ∧ kc178 ≤ 2 ∧ Ext w W ∧ Blk W g57 5 (byteVals ll) ∧ Blk W g166 22 [(.slice A b.length c), (.slice (some ⟨g57, 0, none⟩) (many.toNat + 1) (many.toNat + 1))] ∧ w167.heap.size ≤ W.heap.size) (fun a' _ => 2 - (intOf (a'.eval (.tmp 53))).toNat) ⟨0, (((((((((((((hF177.nil.cons (q_get hF177 (t := 53) rfl (by first | rfl | (congr 1; omega) | (congr 1; done)))).cons (q_get hF177 (t := 52) rfl rfl)).cons (q_get hF177 (t := 51) rfl rfl)).cons (q_get hF177 (t := 28) rfl rfl)).cons (q_get hF177 (t := 27) rfl rfl)).cons (q_get hF177 (t := 26) rfl rfl)).cons (q_get hF177 (t := 7) rfl rfl)).cons (q_get hF177 (t := 20) rfl rfl)).cons (q_get hF177 (t := 12) rfl rfl)).cons (q_get hF177 (t := 6) rfl rfl)).cons (q_get hF177 (t := 2) rfl rfl)).cons (q_get hF177 (t := 1) rfl rfl)).cons (q_get hF177 (t := 0) rfl rfl)), (by omega), (((Ext.refl w).trans hx79).trans hx169), b179, b168, (Nat.le_refl _)⟩ ?_
        clear hF177
        rintro a180 w181 ⟨kc178, hF182, hp184, hx183, b185, b186, hf187⟩
        have hL188 := hF182
        have z189 := hx183.size
        have z190 := b185.lt
        have z191 := b186.lt
        rcases (show kc178 = 0 ∨ kc178 = 1 ∨ kc178 = 2 by omega) with hk192 | hk192 | hk192
        · subst hk192
          refine wp_seq_k (fun K193 hK193 => ?_)
          refine wp_region_lit ?_
          refine wpl_op (i := 0) rfl (o_val (v := (.bool true)) hF182 rfl rfl rfl rfl (rn_lss' (hF182.get rfl) (hF182.get rfl) (by decide)) ?_)
          intro a194 hF195; clear hF182
          refine wpList_nil ?_
          refine hK193 _ _ ?_
          clear hK193
          refine wp_seq_k (fun K196 hK196 => ?_)
          refine wp_cond_true (c_true hF195 rfl rfl) ?_
          refine wp_skip ?_
          refine hK196 _ _ ?_
          clear hK196
          refine wp_seq_k (fun K197 hK197 => ?_)
          refine wp_block ?_
          refine wp_seq_k (fun K198 hK198 => ?_)
          refine wp_region_lit ?_
          refine wpl_op (i := 0) rfl (o_val (v := (.pointer (some ⟨g166, 0 + 0, none⟩))) hF195 rfl rfl rfl rfl (rn_index1 Tryd.underlying24 (by kernel_rfl : (Tryd.prog.info? 22).map (·.size) = some 1) (hF195.get rfl) (hF195.get rfl) (by omega : (0 : Int) ≤ 0) (by omega : (0 : Int) < ((2 : Nat) : Int))) ?_)
          intro a199 hF200; clear hF195
          refine wpl_op (i := 1) rfl (o_val (v := (.slice A b.length c)) hF200 rfl rfl rfl rfl (rn_load (isAgg_no Tryd.underlying22 rfl) (hF200.get rfl) (b186.rule.1 (0 + 0))) ?_)
          intro a201 hF202; clear hF200
          refine wpl_op (i := 2) rfl (o_val (v := (.slice A b.length c)) hF202 rfl rfl rfl rfl (rn_assign (hF202.get rfl)) ?_)
          intro a203 hF204; clear hF202
          refine wpList_nil ?_
          refine hK198 _ _ ?_
          clear hK198
          refine wp_seq_k (fun K205 hK205 => ?_)
          refine wp_region_lit ?_
          refine wpl_op (i := 0) rfl (o_val (v := (.slice A b.length c)) hF204 rfl rfl rfl rfl (rn_move (hF204.get rfl)) ?_)
          intro a206 hF207; clear hF204
          have d208 := (hc.ext hx183)
          refine wpl_op (i := 1) rfl (o_call hF207 rfl rfl rfl rfl (rn_call (args1 (hF207.get rfl)) rfl (by kernel_rfl)) (sum_at (v := (.slice A b.length c)) (n := b.length) b _ d208 (hG.ext ((Ext.refl w).trans hx183))) ?_)
          rintro _ w209 ⟨rfl, hx210⟩
          refine ⟨_, rfl, ?_⟩; intro a211 hF212; clear hF207; have z213 := hx210.size
          refine wpl_op (i := 2) rfl (o_val (v := (.slice A b.length c)) hF212 rfl rfl rfl rfl (rn_move (hF212.get rfl)) ?_)
          intro a214 hF215; clear hF212
          have d216 := ((hc.ext hx183).ext hx210)
          refine wpl_op (i := 3) rfl (o_call hF215 rfl rfl rfl rfl (rn_call (args1 (hF215.get rfl)) rfl (by kernel_rfl)) (rsum_at (v := (.slice A b.length c)) (n := b.length) b _ d216 (by omega)) ?_)
          rintro _ w217 ⟨rfl, hx218⟩
          refine ⟨_, rfl, ?_⟩; intro a219 hF220; clear hF215; have z221 := hx218.size
          refine wpl_op (i := 4) rfl (o_val (v := (.bool (!decide (bsum b = bsum b)))) hF220 rfl rfl rfl rfl (rn_neA Tryd.underlying26 Tryd.underlying5 (by kernel_rfl : (Tryd.prog.info? 5).map (·.size) = some 1) (by kernel_rfl) (hF220.get rfl) (hF220.get rfl) (bsum_len _) (bsum_len _)) ?_)
          intro a222 hF223; clear hF220
          refine wpl_op (i := 5) rfl (o_val (v := (.bool (!decide (bsum b = bsum b)))) hF223 rfl rfl rfl rfl (rn_move (hF223.get rfl)) ?_)
          intro a224 hF225; clear hF223
          refine wpl_op (i := 6) rfl (o_val (v := (strOf tag)) hF225 rfl (wanted_guard rfl rfl rfl hF225 rfl (not_t ((decide_eq_true rfl) : decide (bsum b = bsum b) = true)) rfl) rfl rfl (rn_move (hF225.get rfl)) ?_)
          intro a227 hF228; clear hF225
          refine wpl_op (i := 7) rfl (o_val (v := (.slice A b.length c)) hF228 rfl (wanted_guard rfl rfl rfl hF228 rfl (not_t ((decide_eq_true rfl) : decide (bsum b = bsum b) = true)) rfl) rfl rfl (rn_move (hF228.get rfl)) ?_)
          intro a229 hF230; clear hF228
          have d231 := (((hc.ext hx183).ext hx210).ext hx218)
          refine wpl_op (i := 8) rfl (o_call hF230 rfl (wanted_guard rfl rfl rfl hF230 rfl (not_t ((decide_eq_true rfl) : decide (bsum b = bsum b) = true)) rfl) rfl rfl (rn_call (args2 (hF230.get rfl) (hF230.get rfl)) rfl (by kernel_rfl)) (tagged_at tag (v := (.slice A b.length c)) (n := b.length) b _ d231 (hG.ext ((((Ext.refl w).trans hx183).trans hx210).trans hx218)) (by omega) (by omega)) ?_)
          rintro _ w232 ⟨rfl, hx233⟩
          refine ⟨_, rfl, ?_⟩; intro a234 hF235; clear hF230; have z236 := hx233.size
          refine wpl_op (i := 9) rfl (o_val (v := (strOf tag)) hF235 rfl (wanted_guard rfl rfl rfl hF235 rfl (not_t ((decide_eq_true rfl) : decide (bsum b = bsum b) = true)) rfl) rfl rfl (rn_move (hF235.get rfl)) ?_)
          intro a237 hF238; clear hF235
          refine wpl_op (i := 10) rfl (o_val (v := (.slice A b.length c)) hF238 rfl (wanted_guard rfl rfl rfl hF238 rfl (not_t ((decide_eq_true rfl) : decide (bsum b = bsum b) = true)) rfl) rfl rfl (rn_move (hF238.get rfl)) ?_)
          intro a239 hF240; clear hF238
          have d241 := ((((hc.ext hx183).ext hx210).ext hx218).ext hx233)
          refine wpl_op (i := 11) rfl (o_call hF240 rfl (wanted_guard rfl rfl rfl hF240 rfl (not_t ((decide_eq_true rfl) : decide (bsum b = bsum b) = true)) rfl) rfl rfl (rn_call (args2 (hF240.get rfl) (hF240.get rfl)) rfl (by kernel_rfl)) (rtagged_at tag (v := (.slice A b.length c)) (n := b.length) b _ d241 (by omega) (by omega)) ?_)
          rintro _ w242 ⟨rfl, hx243⟩
          refine ⟨_, rfl, ?_⟩; intro a244 hF245; clear hF240; have z246 := hx243.size
          refine wpl_op (i := 12) rfl (o_val (v := (.bool (!decide (tagged tag b = tagged tag b)))) hF245 rfl (wanted_guard rfl rfl rfl hF245 rfl (not_t ((decide_eq_true rfl) : decide (bsum b = bsum b) = true)) rfl) rfl rfl (rn_neA Tryd.underlying26 Tryd.underlying5 (by kernel_rfl : (Tryd.prog.info? 5).map (·.size) = some 1) (by kernel_rfl) (hF245.get rfl) (hF245.get rfl) (tagged_len _ _) (tagged_len _ _)) ?_)
          intro a247 hF248; clear hF245
          refine wpl_op (i := 13) rfl (o_val (v := (.bool (!decide (tagged tag b = tagged tag b)))) hF248 rfl rfl rfl rfl (rn_pickF (c_false hF248 rfl (not_t ((decide_eq_true rfl) : decide (bsum b = bsum b) = true))) (hF248.get rfl)) ?_)
          intro a249 hF250; clear hF248
          refine wpList_nil ?_
          refine hK205 _ _ ?_
          clear hK205
          have hF251 := ((((((((((((((((hF250.nil.cons (hF250.get (t := 70) (v := (.bool (!decide (tagged tag b = tagged tag b)))) rfl)).cons (hF250.get (t := 10) (v := (.slice A b.length c)) rfl)).cons (hF250.get (t := 54) (v := (.bool true)) rfl)).cons (hF250.get (t := 53) (v := (.int .i64 0)) rfl)).cons (hF250.get (t := 52) (v := (.int .i64 2)) rfl)).cons (hF250.get (t := 51) (v := (.slice (some ⟨g166, 0, none⟩) 2 2)) rfl)).cons (hF250.get (t := 28) (v := (.bool (decide (((k : Nat) : Int) < ((many.toNat + 1 : Nat) : Int))))) rfl)).cons (hF250.get (t := 27) (v := (.int .i64 (k : Nat))) rfl)).cons (hF250.get (t := 26) (v := (.int .i64 (many.toNat + 1 : Nat))) rfl)).cons (hF250.get (t := 7) (v := (.slice (some ⟨g57, 0, none⟩) (many.toNat + 1) (many.toNat + 1))) rfl)).cons (hF250.get (t := 20) (v := (.bool (decide ((300 : Int) < ((tag.length : Nat) : Int))))) rfl)).cons (hF250.get (t := 12) (v := (.bool false)) rfl)).cons (hF250.get (t := 6) (v := (.bool false)) rfl)).cons (hF250.get (t := 2) (v := (.int .u8 (many.toNat : Nat))) rfl)).cons (hF250.get (t := 1) (v := (strOf tag)) rfl)).cons (hF250.get (t := 0) (v := (.slice A b.length c)) rfl))
          clear hF250
          refine wp_cond_false (c_false hF251 rfl (not_t ((decide_eq_true rfl) : decide (tagged tag b = tagged tag b) = true))) ?_
          refine wp_skip ?_
          refine hK197 _ _ ?_
          clear hK197
          refine wp_region_lit ?_
          refine wpl_op (i := 0) rfl (o_val (v := (.int .i64 1)) hF251 rfl rfl rfl rfl (rn_add (hF251.get rfl) rfl (by omega) (by omega)) ?_)
          intro a253 hF254; clear hF251
          refine wpl_op (i := 1) rfl (o_val (v := (.int .i64 1)) hF254 rfl rfl rfl rfl (rn_move (hF254.get rfl)) ?_)
          intro a255 hF256; clear hF254
          refine wpList_nil ?_
          have b257 : Blk w242 g57 5 (byteVals ll) := ((((b185.ext hx210).ext hx218).ext hx233).ext hx243)
          have b258 : Blk w242 g166 22 [(.slice A b.length c), (.slice (some ⟨g57, 0, none⟩) (many.toNat + 1) (many.toNat + 1))] := ((((b186.ext hx210).ext hx218).ext hx233).ext hx243)
          refine ⟨⟨1, (((((((((((((hF256.nil.cons (q_get hF256 (t := 53) rfl (by first | rfl | (congr 1; omega) | (congr 1; done)))).cons (q_get hF256 (t := 52) rfl rfl)).cons (q_get hF256 (t := 51) rfl rfl)).cons (q_get hF256 (t := 28) rfl rfl)).cons (q_get hF256 (t := 27) rfl rfl)).cons (q_get hF256 (t := 26) rfl rfl)).cons (q_get hF256 (t := 7) rfl rfl)).cons (q_get hF256 (t := 20) rfl rfl)).cons (q_get hF256 (t := 12) rfl rfl)).cons (q_get hF256 (t := 6) rfl rfl)).cons (q_get hF256 (t := 2) rfl rfl)).cons (q_get hF256 (t := 1) rfl rfl)).cons (q_get hF256 (t := 0) rfl rfl)), (by omega), ((((((Ext.refl w).trans hx183).trans hx210).trans hx218).trans hx233).trans hx243), b257, b258, (by omega)⟩, ?_⟩
          rw [hF256.get (t := 53) rfl, hL188.get (t := 53) rfl]; simp [intOf] <;> omega
        · subst hk192
          refine wp_seq_k (fun K259 hK259 => ?_)
          refine wp_region_lit ?_
          refine wpl_op (i := 0) rfl (o_val (v := (.bool true)) hF182 rfl rfl rfl rfl (rn_lss' (hF182.get rfl) (hF182.get rfl) (by decide)) ?_)
          intro a260 hF261; clear hF182
          refine wpList_nil ?_
          refine hK259 _ _ ?_
          clear hK259
          refine wp_seq_k (fun K262 hK262 => ?_)
          refine wp_cond_true (c_true hF261 rfl rfl) ?_
          refine wp_skip ?_
          refine hK262 _ _ ?_
          clear hK262
          refine wp_seq_k (fun K263 hK263 => ?_)
          refine wp_block ?_
          refine wp_seq_k (fun K264 hK264 => ?_)
          refine wp_region_lit ?_
          refine wpl_op (i := 0) rfl (o_val (v := (.pointer (some ⟨g166, 0 + 1, none⟩))) hF261 rfl rfl rfl rfl (rn_index1 Tryd.underlying24 (by kernel_rfl : (Tryd.prog.info? 22).map (·.size) = some 1) (hF261.get rfl) (hF261.get rfl) (by omega : (0 : Int) ≤ 1) (by omega : (1 : Int) < ((2 : Nat) : Int))) ?_)
          intro a265 hF266; clear hF261
          refine wpl_op (i := 1) rfl (o_val (v := (.slice (some ⟨g57, 0, none⟩) (many.toNat + 1) (many.toNat + 1))) hF266 rfl rfl rfl rfl (rn_load (isAgg_no Tryd.underlying22 rfl) (hF266.get rfl) (b186.rule.1 (0 + 1))) ?_)
          intro a267 hF268; clear hF266
          refine wpl_op (i := 2) rfl (o_val (v := (.slice (some ⟨g57, 0, none⟩) (many.toNat + 1) (many.toNat + 1))) hF268 rfl rfl rfl rfl (rn_assign (hF268.get rfl)) ?_)
          intro a269 hF270; clear hF268
          refine wpList_nil ?_
          refine hK264 _ _ ?_
          clear hK264
          refine wp_seq_k (fun K271 hK271 => ?_)
          refine wp_region_lit ?_
          refine wpl_op (i := 0) rfl (o_val (v := (.slice (some ⟨g57, 0, none⟩) (many.toNat + 1) (many.toNat + 1))) hF270 rfl rfl rfl rfl (rn_move (hF270.get rfl)) ?_)
          intro a272 hF273; clear hF270
          refine wpl_op (i := 1) rfl (o_call hF273 rfl rfl rfl rfl (rn_call (args1 (hF273.get rfl)) rfl (by kernel_rfl)) (sum_at (v := (.slice (some ⟨g57, 0, none⟩) (many.toNat + 1) (many.toNat + 1))) (n := many.toNat + 1) ll _ (Fl.blk (S := fun b => b = g57) (k := 1) (n := many.toNat + 1) (c := many.toNat + 1) b185 (by rw [byteVals_len hp81, Nat.mul_one]) (byteVals_one _) (by omega) rfl) (hG.ext ((Ext.refl w).trans hx183))) ?_)
          rintro _ w274 ⟨rfl, hx275⟩
          refine ⟨_, rfl, ?_⟩; intro a276 hF277; clear hF273; have z278 := hx275.size
          refine wpl_op (i := 2) rfl (o_val (v := (.slice (some ⟨g57, 0, none⟩) (many.toNat + 1) (many.toNat + 1))) hF277 rfl rfl rfl rfl (rn_move (hF277.get rfl)) ?_)
          intro a279 hF280; clear hF277
          have b281 : Blk w274 g57 5 (byteVals ll) := (b185.ext hx275)
          refine wpl_op (i := 3) rfl (o_call hF280 rfl rfl rfl rfl (rn_call (args1 (hF280.get rfl)) rfl (by kernel_rfl)) (rsum_at (v := (.slice (some ⟨g57, 0, none⟩) (many.toNat + 1) (many.toNat + 1))) (n := many.toNat + 1) ll _ (Fl.blk (S := fun b => b = g57) (k := 1) (n := many.toNat + 1) (c := many.toNat + 1) b281 (by rw [byteVals_len hp81, Nat.mul_one]) (byteVals_one _) (by omega) rfl) (by omega)) ?_)
          rintro _ w282 ⟨rfl, hx283⟩
          refine ⟨_, rfl, ?_⟩; intro a284 hF285; clear hF280; have z286 := hx283.size
          refine wpl_op (i := 4) rfl (o_val (v := (.bool (!decide (bsum ll = bsum ll)))) hF285 rfl rfl rfl rfl (rn_neA Tryd.underlying26 Tryd.underlying5 (by kernel_rfl : (Tryd.prog.info? 5).map (·.size) = some 1) (by kernel_rfl) (hF285.get rfl) (hF285.get rfl) (bsum_len _) (bsum_len _)) ?_)
          intro a287 hF288; clear hF285
          refine wpl_op (i := 5) rfl (o_val (v := (.bool (!decide (bsum ll = bsum ll)))) hF288 rfl rfl rfl rfl (rn_move (hF288.get rfl)) ?_)
          intro a289 hF290; clear hF288
          refine wpl_op (i := 6) rfl (o_val (v := (strOf tag)) hF290 rfl (wanted_guard rfl rfl rfl hF290 rfl (not_t ((decide_eq_true rfl) : decide (bsum ll = bsum ll) = true)) rfl) rfl rfl (rn_move (hF290.get rfl)) ?_)
          intro a292 hF293; clear hF290
          refine wpl_op (i := 7) rfl (o_val (v := (.slice (some ⟨g57, 0, none⟩) (many.toNat + 1) (many.toNat + 1))) hF293 rfl (wanted_guard rfl rfl rfl hF293 rfl (not_t ((decide_eq_true rfl) : decide (bsum ll = bsum ll) = true)) rfl) rfl rfl (rn_move (hF293.get rfl)) ?_)
          intro a294 hF295; clear hF293
          have b296 : Blk w282 g57 5 (byteVals ll) := (b281.ext hx283)
          refine wpl_op (i := 8) rfl (o_call hF295 rfl (wanted_guard rfl rfl rfl hF295 rfl (not_t ((decide_eq_true rfl) : decide (bsum ll = bsum ll) = true)) rfl) rfl rfl (rn_call (args2 (hF295.get rfl) (hF295.get rfl)) rfl (by kernel_rfl)) (tagged_at tag (v := (.slice (some ⟨g57, 0, none⟩) (many.toNat + 1) (many.toNat + 1))) (n := many.toNat + 1) ll _ (Fl.blk (S := fun b => b = g57) (k := 1) (n := many.toNat + 1) (c := many.toNat + 1) b296 (by rw [byteVals_len hp81, Nat.mul_one]) (byteVals_one _) (by omega) rfl) (hG.ext ((((Ext.refl w).trans hx183).trans hx275).trans hx283)) (by omega) (by omega)) ?_)
          rintro _ w297 ⟨rfl, hx298⟩
          refine ⟨_, rfl, ?_⟩; intro a299 hF300; clear hF295; have z301 := hx298.size
          refine wpl_op (i := 9) rfl (o_val (v := (strOf tag)) hF300 rfl (wanted_guard rfl rfl rfl hF300 rfl (not_t ((decide_eq_true rfl) : decide (bsum ll = bsum ll) = true)) rfl) rfl rfl (rn_move (hF300.get rfl)) ?_)
          intro a302 hF303; clear hF300
          refine wpl_op (i := 10) rfl (o_val (v := (.slice (some ⟨g57, 0, none⟩) (many.toNat + 1) (many.toNat + 1))) hF303 rfl (wanted_guard rfl rfl rfl hF303 rfl (not_t ((decide_eq_true rfl) : decide (bsum ll = bsum ll) = true)) rfl) rfl rfl (rn_move (hF303.get rfl)) ?_)
          intro a304 hF305; clear hF303
          have b306 : Blk w297 g57 5 (byteVals ll) := (b296.ext hx298)
          refine wpl_op (i := 11) rfl (o_call hF305 rfl (wanted_guard rfl rfl rfl hF305 rfl (not_t ((decide_eq_true rfl) : decide (bsum ll = bsum ll) = true)) rfl) rfl rfl (rn_call (args2 (hF305.get rfl) (hF305.get rfl)) rfl (by kernel_rfl)) (rtagged_at tag (v := (.slice (some ⟨g57, 0, none⟩) (many.toNat + 1) (many.toNat + 1))) (n := many.toNat + 1) ll _ (Fl.blk (S := fun b => b = g57) (k := 1) (n := many.toNat + 1) (c := many.toNat + 1) b306 (by rw [byteVals_len hp81, Nat.mul_one]) (byteVals_one _) (by omega) rfl) (by omega) (by omega)) ?_)
          rintro _ w307 ⟨rfl, hx308⟩
          refine ⟨_, rfl, ?_⟩; intro a309 hF310; clear hF305; have z311 := hx308.size
          refine wpl_op (i := 12) rfl (o_val (v := (.bool (!decide (tagged tag ll = tagged tag ll)))) hF310 rfl (wanted_guard rfl rfl rfl hF310 rfl (not_t ((decide_eq_true rfl) : decide (bsum ll = bsum ll) = true)) rfl) rfl rfl (rn_neA Tryd.underlying26 Tryd.underlying5 (by kernel_rfl : (Tryd.prog.info? 5).map (·.size) = some 1) (by kernel_rfl) (hF310.get rfl) (hF310.get rfl) (tagged_len _ _) (tagged_len _ _)) ?_)
          intro a312 hF313; clear hF310
          refine wpl_op (i := 13) rfl (o_val (v := (.bool (!decide (tagged tag ll = tagged tag ll)))) hF313 rfl rfl rfl rfl (rn_pickF (c_false hF313 rfl (not_t ((decide_eq_true rfl) : decide (bsum ll = bsum ll) = true))) (hF313.get rfl)) ?_)
          intro a314 hF315; clear hF313
          refine wpList_nil ?_
          refine hK271 _ _ ?_
          clear hK271
          have hF316 := ((((((((((((((((hF315.nil.cons (hF315.get (t := 70) (v := (.bool (!decide (tagged tag ll = tagged tag ll)))) rfl)).cons (hF315.get (t := 10) (v := (.slice (some ⟨g57, 0, none⟩) (many.toNat + 1) (many.toNat + 1))) rfl)).cons (hF315.get (t := 54) (v := (.bool true)) rfl)).cons (hF315.get (t := 53) (v := (.int .i64 1)) rfl)).cons (hF315.get (t := 52) (v := (.int .i64 2)) rfl)).cons (hF315.get (t := 51) (v := (.slice (some ⟨g166, 0, none⟩) 2 2)) rfl)).cons (hF315.get (t := 28) (v := (.bool (decide (((k : Nat) : Int) < ((many.toNat + 1 : Nat) : Int))))) rfl)).cons (hF315.get (t := 27) (v := (.int .i64 (k : Nat))) rfl)).cons (hF315.get (t := 26) (v := (.int .i64 (many.toNat + 1 : Nat))) rfl)).cons (hF315.get (t := 7) (v := (.slice (some ⟨g57, 0, none⟩) (many.toNat + 1) (many.toNat + 1))) rfl)).cons (hF315.get (t := 20) (v := (.bool (decide ((300 : Int) < ((tag.length : Nat) : Int))))) rfl)).cons (hF315.get (t := 12) (v := (.bool false)) rfl)).cons (hF315.get (t := 6) (v := (.bool false)) rfl)).cons (hF315.get (t := 2) (v := (.int .u8 (many.toNat : Nat))) rfl)).cons (hF315.get (t := 1) (v := (strOf tag)) rfl)).cons (hF315.get (t := 0) (v := (.slice A b.length c)) rfl))
          clear hF315
          refine wp_cond_false (c_false hF316 rfl (not_t ((decide_eq_true rfl) : decide (tagged tag ll = tagged tag ll) = true))) ?_
          refine wp_skip ?_
          refine hK263 _ _ ?_
          clear hK263
          refine wp_region_lit ?_
          refine wpl_op (i := 0) rfl (o_val (v := (.int .i64 2)) hF316 rfl rfl rfl rfl (rn_add (hF316.get rfl) rfl (by omega) (by omega)) ?_)
          intro a318 hF319; clear hF316
          refine wpl_op (i := 1) rfl (o_val (v := (.int .i64 2)) hF319 rfl rfl rfl rfl (rn_move (hF319.get rfl)) ?_)
          intro a320 hF321; clear hF319
          refine wpList_nil ?_
          have b322 : Blk w307 g57 5 (byteVals ll) := (b306.ext hx308)
          have b323 : Blk w307 g166 22 [(.slice A b.length c), (.slice (some ⟨g57, 0, none⟩) (many.toNat + 1) (many.toNat + 1))] := ((((b186.ext hx275).ext hx283).ext hx298).ext hx308)
          refine ⟨⟨2, (((((((((((((hF321.nil.cons (q_get hF321 (t := 53) rfl (by first | rfl | (congr 1; omega) | (congr 1; done)))).cons (q_get hF321 (t := 52) rfl rfl)).cons (q_get hF321 (t := 51) rfl rfl)).cons (q_get hF321 (t := 28) rfl rfl)).cons (q_get hF321 (t := 27) rfl rfl)).cons (q_get hF321 (t := 26) rfl rfl)).cons (q_get hF321 (t := 7) rfl rfl)).cons (q_get hF321 (t := 20) rfl rfl)).cons (q_get hF321 (t := 12) rfl rfl)).cons (q_get hF321 (t := 6) rfl rfl)).cons (q_get hF321 (t := 2) rfl rfl)).cons (q_get hF321 (t := 1) rfl rfl)).cons (q_get hF321 (t := 0) rfl rfl)), (by omega), ((((((Ext.refl w).trans hx183).trans hx275).trans hx283).trans hx298).trans hx308), b322, b323, (by omega)⟩, ?_⟩
          rw [hF321.get (t := 53) rfl, hL188.get (t := 53) rfl]; simp [intOf] <;> omega
        · subst hk192
          refine wp_seq_k (fun K324 hK324 => ?_)
          refine wp_region_lit ?_
          refine wpl_op (i := 0) rfl (o_val (v := (.bool false)) hF182 rfl rfl rfl rfl (rn_lss' (hF182.get rfl) (hF182.get rfl) (by decide)) ?_)
          intro a325 hF326; clear hF182
          refine wpList_nil ?_
          refine hK324 _ _ ?_
          clear hK324
          refine wp_seq_k (fun K327 hK327 => ?_)
          refine wp_cond_false (c_false hF326 rfl rfl) ?_
          refine wp_exit ?_
          refine exit_then ?_
          refine exit_then ?_
          refine exit_here ?_
          refine hK160 _ _ ?_
          clear hK160
          refine wp_seq_k (fun K328 hK328 => ?_)
          refine wp_region_lit ?_
          refine wpl_op (i := 0) rfl (o_val (v := (.bool true)) hF326 rfl rfl rfl rfl (rn_assign rfl) ?_)
          intro a329 hF330; clear hF326
          refine wpList_nil ?_
          refine hK328 _ _ ?_
          clear hK328
          refine wp_ret ?_
          refine ret1 hF330 rfl rfl ?_
          exact ⟨congrArg (fun b => Ending.returned (.bool b)) (rfl : true = true), ((Ext.refl w).trans hx183)⟩

end Go.Proofs.YtgodliookpgliaaDoor
