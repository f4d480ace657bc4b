/- The law DigestHalves walked. -/
import Derived.Test.YtgodliookpgliaaDoorProg
import Derived.Test.YtgodliookpgliaaDoorLawB3
import Derived.Test.YtgodliookpgliaaDoorWk11
import Derived.KernelRfl
namespace Go.Proofs.YtgodliookpgliaaDoor
open Go.RowKit

variable {S S' : Nat → Prop}

set_option maxRecDepth 100000 in
set_option maxHeartbeats 1000000 in
theorem halves_any (A : Option Addr) (c : Nat) (s : List UInt8) (w : World) (hf : Fl S w 1 (.slice A s.length c) s.length (byteVals s)) (hG : Glob w) :
    Calls Tryd.prog 7 #[.slice A s.length c] w (fun e w' => e = .returned (.bool true) ∧ Ext w w') := by
  have hc : Fl (Clip S w) w 1 (.slice A s.length c) s.length (byteVals s) := hf.clip
  have hcc := (Fl.cel hc).2.1
  refine calls_enter (l := [(.slice A s.length c)]) Tryd.func7 rfl rfl rfl (fun aA hF => ?_)
  refine wp_seq_k (fun K1 hK1 => ?_)
  refine wp_region_lit ?_
  refine wpl_op (i := 0) rfl (o_val (v := (.bool false)) hF rfl rfl rfl rfl (rn_assign rfl) ?_)
  intro a2 hF3; clear hF
  refine wpList_nil ?_
  refine hK1 _ _ ?_
  clear hK1
  refine wp_seq_k (fun K4 hK4 => ?_)
  refine wp_seq_k (fun K5 hK5 => ?_)
  refine wp_region_lit ?_
  refine wpl_op (i := 0) rfl (o_call hF3 rfl rfl rfl rfl (rn_call (args0 ) rfl (by kernel_rfl)) (sane_any _ (hG.ext (Ext.refl w))) ?_)
  rintro _ w6 ⟨rfl, hx7⟩
  refine ⟨_, rfl, ?_⟩; intro a8 hF9; clear hF3; have z10 := hx7.size
  refine wpl_op (i := 1) rfl (o_val (v := (.bool false)) hF9 rfl rfl rfl rfl (rn_not' (hF9.get rfl) rfl) ?_)
  intro a11 hF12; clear hF9
  refine wpList_nil ?_
  refine hK5 _ _ ?_
  clear hK5
  refine wp_cond_false (c_false hF12 rfl rfl) ?_
  refine wp_skip ?_
  refine hK4 _ _ ?_
  clear hK4
  refine wp_seq_k (fun K13 hK13 => ?_)
  refine wp_region_lit ?_
  refine wpl_op (i := 0) rfl (o_val (v := (.slice A s.length c)) hF12 rfl rfl rfl rfl (rn_move (hF12.get rfl)) ?_)
  intro a14 hF15; clear hF12
  have d16 := (hc.ext hx7)
  refine wpl_op (i := 1) rfl (o_call hF15 rfl rfl rfl rfl (rn_call (args1 (hF15.get rfl)) rfl (by kernel_rfl)) (digsOf_at s _ (v := (.slice A s.length c)) (n := s.length) d16) ?_)
  rintro _ w23 ⟨A17, c18, rfl, hf19, hx24⟩
  have z20 := (Fl.cel hf19).2.1; have z22 := digsOf_len s
  refine ⟨_, rfl, ?_⟩; intro a25 hF26; clear hF15; have z27 := hx24.size
  have hf28 : Fl (Clip (fun b => w6.heap.size ≤ b) w23) w23 32 (.slice A17 ((digsOf s).length) c18) ((digsOf s).length) (digVals (digsOf s)) := hf19.clip
  refine wpl_op (i := 2) rfl (o_val (v := (.slice A17 ((digsOf s).length) c18)) hF26 rfl rfl rfl rfl (rn_assign (hF26.get rfl)) ?_)
  intro a29 hF30; clear hF26
  refine wpList_nil ?_
  refine hK13 _ _ ?_
  clear hK13
  refine wp_seq_k (fun K31 hK31 => ?_)
  refine wp_seq_k (fun K32 hK32 => ?_)
  refine wp_region_lit ?_
  refine wpl_op (i := 0) rfl (o_val (v := (.slice A17 ((digsOf s).length) c18)) hF30 rfl rfl rfl rfl (rn_move (hF30.get rfl)) ?_)
  intro a33 hF34; clear hF30
  refine wpl_op (i := 1) rfl (o_val (v := (.int .i64 ((digsOf s).length : Nat))) hF34 rfl rfl rfl rfl (rn_len_slice Tryd.underlying30 (hF34.get rfl)) ?_)
  intro a35 hF36; clear hF34
  refine wpList_nil ?_
  refine hK32 _ _ ?_
  clear hK32
  have hF37 := (((((hF36.nil.cons (hF36.get (t := 12) (v := (.int .i64 ((digsOf s).length : Nat))) rfl)).cons (hF36.get (t := 3) (v := (.slice A17 ((digsOf s).length) c18)) rfl)).cons (hF36.get (t := 8) (v := (.bool false)) rfl)).cons (hF36.get (t := 2) (v := (.bool false)) rfl)).cons (hF36.get (t := 0) (v := (.slice A s.length c)) rfl))
  clear hF36
  refine wp_block ?_
  refine wp_seq_k (fun K38 hK38 => ?_)
  refine wp_region_lit ?_
  refine wpl_op (i := 0) rfl (o_val (v := (.bool (decide ((((digsOf s).length : Nat) : Int) = (0 : Int))))) hF37 rfl rfl rfl rfl (rn_eql (hF37.get rfl) rfl) ?_)
  intro a39 hF40; clear hF37
  refine wpl_op (i := 1) rfl (o_val (v := (.bool (decide ((((digsOf s).length : Nat) : Int) = (0 : Int))))) hF40 rfl rfl rfl rfl (rn_assign (hF40.get rfl)) ?_)
  intro a41 hF42; clear hF40
  refine wpList_nil ?_
  refine hK38 _ _ ?_
  clear hK38
  by_cases hc43 : (((digsOf s).length : Nat) : Int) = (0 : Int)
  · skip
    refine wp_cond_true (c_true hF42 rfl (decide_eq_true hc43)) ?_
    refine wp_seq_k (fun K44 hK44 => ?_)
    refine wp_region_lit ?_
    refine wpl_op (i := 0) rfl (o_val (v := (.slice A17 ((digsOf s).length) c18)) hF42 rfl rfl rfl rfl (rn_move (hF42.get rfl)) ?_)
    intro a45 hF46; clear hF42
    have hf47 := hf28
    refine wpl_op (i := 1) rfl (o_call hF46 rfl rfl rfl rfl (rn_call (args1 (hF46.get rfl)) rfl (by kernel_rfl)) (tree_at (digsOf s) _ (n := (digsOf s).length) (v := (.slice A17 ((digsOf s).length) c18)) (digsOf_32 _) hf47 (hG.ext (((Ext.refl w).trans hx7).trans hx24))) ?_)
    rintro _ w48 ⟨rfl, hx49⟩
    refine ⟨_, rfl, ?_⟩; intro a50 hF51; clear hF46; have z52 := hx49.size
    refine wpl_op (i := 2) rfl (o_call hF51 rfl rfl rfl rfl (rn_call (args2 rfl rfl) rfl (by kernel_rfl)) (tagged_at ([101, 109, 112, 116, 121]) (v := (.slice none 0 0)) (n := 0) ([]) _ (show Fl (fun _ => False) w48 1 (.slice none 0 0) 0 (byteVals []) from Fl.nil _) (hG.ext ((((Ext.refl w).trans hx7).trans hx24).trans hx49)) (by simp <;> omega) (by omega)) ?_)
    rintro _ w53 ⟨rfl, hx54⟩
    refine ⟨_, rfl, ?_⟩; intro a55 hF56; clear hF51; have z57 := hx54.size
    refine wpl_op (i := 3) rfl (o_val (v := (.bool (decide (treeD (digsOf s) = tagged ([101, 109, 112, 116, 121]) ([]))))) hF56 rfl rfl rfl rfl (rn_eqA Tryd.underlying26 Tryd.underlying5 (by kernel_rfl : (Tryd.prog.info? 5).map (·.size) = some 1) (by kernel_rfl) (hF56.get rfl) (hF56.get rfl) (treeD_len _) (tagged_len _ _)) ?_)
    intro a58 hF59; clear hF56
    refine wpl_op (i := 4) rfl (o_val (v := (.bool (decide (treeD (digsOf s) = tagged ([101, 109, 112, 116, 121]) ([]))))) hF59 rfl rfl rfl rfl (rn_assign (hF59.get rfl)) ?_)
    intro a60 hF61; clear hF59
    refine wpList_nil ?_
    refine hK44 _ _ ?_
    clear hK44
    have hF62 := ((((((hF61.nil.cons (hF61.get (t := 13) (v := (.bool (decide ((((digsOf s).length : Nat) : Int) = (0 : Int))))) rfl)).cons (hF61.get (t := 12) (v := (.int .i64 ((digsOf s).length : Nat))) rfl)).cons (hF61.get (t := 3) (v := (.slice A17 ((digsOf s).length) c18)) rfl)).cons (hF61.get (t := 8) (v := (.bool false)) rfl)).cons (hF61.get (t := 2) (v := (.bool (decide (treeD (digsOf s) = tagged ([101, 109, 112, 116, 121]) ([]))))) rfl)).cons (hF61.get (t := 0) (v := (.slice A s.length c)) rfl))
    clear hF61
    refine wp_ret ?_
    refine ret_block ?_
    refine ret_then ?_
    refine ret1 hF62 rfl rfl ?_
    exact ⟨congrArg (fun b => Ending.returned (.bool b)) ((decide_eq_true (tree_nil' (by omega))) : decide (treeD (digsOf s) = tagged ([101, 109, 112, 116, 121]) ([])) = true), (((((Ext.refl w).trans hx7).trans hx24).trans hx49).trans hx54)⟩
  · skip
    refine wp_cond_false (c_false hF42 rfl (decide_eq_false hc43)) ?_
    refine wp_seq_k (fun K63 hK63 => ?_)
    refine wp_region_lit ?_
    refine wpl_op (i := 0) rfl (o_val (v := (.bool (decide ((((digsOf s).length : Nat) : Int) = (1 : Int))))) hF42 rfl rfl rfl rfl (rn_eql (hF42.get rfl) rfl) ?_)
    intro a64 hF65; clear hF42
    refine wpl_op (i := 1) rfl (o_val (v := (.bool (decide ((((digsOf s).length : Nat) : Int) = (1 : Int))))) hF65 rfl rfl rfl rfl (rn_assign (hF65.get rfl)) ?_)
    intro a66 hF67; clear hF65
    refine wpList_nil ?_
    refine hK63 _ _ ?_
    clear hK63
    by_cases hc68 : (((digsOf s).length : Nat) : Int) = (1 : Int)
    · skip
      refine wp_cond_true (c_true hF67 rfl (decide_eq_true hc68)) ?_
      refine wp_seq_k (fun K69 hK69 => ?_)
      have hx71 : ∃ W, w23.drew = W ∧ Ext w23 W := ⟨_, rfl, (Ext.refl _).drew⟩
      obtain ⟨w70, e72, hx71⟩ := hx71
      have z73 := hx71.size
      refine any_start (fun W => Ext w70 W) (fun i => false) 8 #[false, false, false, false, false, false, false, false] rfl rfl rfl ?_
      rw [e72]; clear e72
      refine any_pure (i := 0) (v := (.slice A17 ((digsOf s).length) c18)) hF67 (by decide +kernel) (by decide +kernel) rfl rfl rfl rfl (fun _ _ _ _ h => h) rfl (fun W => (rn_move (hF67.get rfl))) ?_
      intro a74 hF75; clear hF67
      refine any_pure (i := 2) (v := (.slice A17 ((digsOf s).length) c18)) hF75 (by decide +kernel) (by decide +kernel) rfl rfl rfl rfl (fun _ _ _ _ h => h) rfl (fun W => (rn_move (hF75.get rfl))) ?_
      intro a76 hF77; clear hF75
      have d81 := (hf28.ext hx71)
      obtain ⟨b78, o79, hA80, -⟩ := Fl.at d81 (by omega)
      refine any_pure (i := 3) (v := (.pointer (some ⟨b78, o79 + 0 * 32, none⟩))) hF77 (by decide +kernel) (by decide +kernel) rfl rfl rfl rfl (fun _ _ _ _ h => h) rfl (fun W => (rn_indexE Tryd.underlying30 (by kernel_rfl : (Tryd.prog.info? 26).map (·.size) = some 32) ((hF77.get rfl).trans (by rw [hA80])) rfl (by omega : (0 : Int) ≤ 0) (by omega : (0 : Int) < (((digsOf s).length : Nat) : Int)) (by omega))) ?_
      intro a82 hF83; clear hF77
      refine any_pure (i := 4) (v := (.slice (some ⟨b78, o79 + 0 * 32, none⟩) 32 32)) hF83 (by decide +kernel) (by decide +kernel) rfl rfl rfl rfl (fun _ _ _ _ h => h) rfl (fun W => (rn_arrAll Tryd.underlying26 (by kernel_rfl : (Tryd.prog.info? 5).map (·.size) = some 1) (hF83.get rfl))) ?_
      intro a84 hF85; clear hF83
      refine any_one (i := 1) (by decide +kernel) rfl ?_
      have hf86 := d81
      refine o_call hF85 rfl rfl rfl rfl (rn_call (args1 (hF85.get rfl)) rfl (by kernel_rfl)) (tree_at (digsOf s) _ (n := (digsOf s).length) (v := (.slice A17 ((digsOf s).length) c18)) (digsOf_32 _) hf86 (hG.ext ((((Ext.refl w).trans hx7).trans hx24).trans hx71))) ?_
      rintro _ w87 ⟨rfl, hx88⟩
      refine ⟨_, rfl, ?_⟩; intro a89 hF90; clear hF85; have z91 := hx88.size
      refine ⟨fun _ _ => ((Ext.refl w70).trans hx88), ?_⟩
      refine any_one (i := 5) (by decide +kernel) rfl ?_
      have d92 := ((hf28.ext hx71).ext hx88)
      refine o_call hF90 rfl rfl rfl rfl (rn_call (args2 rfl (hF90.get rfl)) rfl (by kernel_rfl)) (tagged_at ([108, 101, 97, 102]) (v := (.slice (some ⟨b78, o79 + 0 * 32, none⟩) 32 32)) (n := 32) ((digsOf s).getD 0 []) _ (Fl.digPart (i := 0) d92 hA80 (digsOf_32 _) (by omega) (by omega)) (hG.ext (((((Ext.refl w).trans hx7).trans hx24).trans hx71).trans hx88)) (by simp <;> omega) (by omega)) ?_
      rintro _ w93 ⟨rfl, hx94⟩
      refine ⟨_, rfl, ?_⟩; intro a95 hF96; clear hF90; have z97 := hx94.size
      refine ⟨fun _ _ => (((Ext.refl w70).trans hx88).trans hx94), ?_⟩
      refine any_pure (i := 6) (v := (.bool (decide (treeD (digsOf s) = tagged ([108, 101, 97, 102]) ((digsOf s).getD 0 []))))) hF96 (by decide +kernel) (by decide +kernel) rfl rfl rfl rfl (fun _ _ _ _ h => h) rfl (fun W => (rn_eqA Tryd.underlying26 Tryd.underlying5 (by kernel_rfl : (Tryd.prog.info? 5).map (·.size) = some 1) (by kernel_rfl) (hF96.get rfl) (hF96.get rfl) (treeD_len _) (tagged_len _ _))) ?_
      intro a98 hF99; clear hF96
      refine any_pure (i := 7) (v := (.bool (decide (treeD (digsOf s) = tagged ([108, 101, 97, 102]) ((digsOf s).getD 0 []))))) hF99 (by decide +kernel) (by decide +kernel) rfl rfl rfl rfl (fun _ _ _ _ h => h) rfl (fun W => (rn_assign (hF99.get rfl))) ?_
      intro a100 hF101; clear hF99
      refine any_nil (by decide +kernel) ?_
      refine hK69 _ _ ?_
      clear hK69
      have hF102 := (((((((hF101.nil.cons (hF101.get (t := 19) (v := (.bool (decide ((((digsOf s).length : Nat) : Int) = (1 : Int))))) rfl)).cons (hF101.get (t := 13) (v := (.bool (decide ((((digsOf s).length : Nat) : Int) = (0 : Int))))) rfl)).cons (hF101.get (t := 12) (v := (.int .i64 ((digsOf s).length : Nat))) rfl)).cons (hF101.get (t := 3) (v := (.slice A17 ((digsOf s).length) c18)) rfl)).cons (hF101.get (t := 8) (v := (.bool false)) rfl)).cons (hF101.get (t := 2) (v := (.bool (decide (treeD (digsOf s) = tagged ([108, 101, 97, 102]) ((digsOf s).getD 0 []))))) rfl)).cons (hF101.get (t := 0) (v := (.slice A s.length c)) rfl))
      clear hF101
      refine wp_ret ?_
      refine ret_block ?_
      refine ret_then ?_
      refine ret1 hF102 rfl rfl ?_
      exact ⟨congrArg (fun b => Ending.returned (.bool b)) ((decide_eq_true (tree_one' (by omega))) : decide (treeD (digsOf s) = tagged ([108, 101, 97, 102]) ((digsOf s).getD 0 [])) = true), ((((((Ext.refl w).trans hx7).trans hx24).trans hx71).trans hx88).trans hx94)⟩
    · skip
      refine wp_cond_false (c_false hF67 rfl (decide_eq_false hc68)) ?_
      refine wp_skip ?_
      refine hK31 _ _ ?_
      clear hK31
      refine wp_seq_k (fun K103 hK103 => ?_)
      refine wp_region_lit ?_
      refine wpl_op (i := 0) rfl (o_val (v := (.int .i64 1)) hF67 rfl rfl rfl rfl (rn_assign rfl) ?_)
      intro a104 hF105; clear hF67
      refine wpList_nil ?_
      refine hK103 _ _ ?_
      clear hK103
      refine wp_seq_k (fun K106 hK106 => ?_)
      refine wp_block ?_
      refine wp_loop (fun a' W => ∃ (k : Nat) (j : Nat), Sl 52 [(0, (.slice A s.length c)), (2, (.bool false)), (8, (.bool false)), (3, (.slice A17 ((digsOf s).length) c18)), (12, (.int .i64 ((digsOf s).length : Nat))), (13, (.bool (decide ((((digsOf s).length : Nat) : Int) = (0 : Int))))), (19, (.bool (decide ((((digsOf s).length : Nat) : Int) = (1 : Int))))), (4, (.int .i64 (k : Nat)))] a' ∧ k = 2 ^ j ∧ k < (digsOf s).length ∧ 1 ≤ k ∧ Ext w W ∧ Fl (Clip (fun b => w6.heap.size ≤ b) w23) W 32 (.slice A17 ((digsOf s).length) c18) ((digsOf s).length) (digVals (digsOf s)) ∧ w23.heap.size ≤ W.heap.size) (fun a' _ => (digsOf s).length - (intOf (a'.eval (.tmp 4))).toNat) ⟨1, 0, ((((((((hF105.nil.cons (q_get hF105 (t := 4) rfl (by first | rfl | (congr 1; omega) | (congr 1; done)))).cons (q_get hF105 (t := 19) rfl rfl)).cons (q_get hF105 (t := 13) rfl rfl)).cons (q_get hF105 (t := 12) rfl rfl)).cons (q_get hF105 (t := 3) rfl rfl)).cons (q_get hF105 (t := 8) rfl rfl)).cons (q_get hF105 (t := 2) rfl rfl)).cons (q_get hF105 (t := 0) rfl rfl)), rfl, (by omega), (by omega), (((Ext.refl w).trans hx7).trans hx24), hf28, (Nat.le_refl _)⟩ ?_
      clear hF105
      rintro a107 w108 ⟨k, j, hF109, hp111, hp112, hp113, hx110, hf114, hf115⟩
      have hL116 := hF109
      have z117 := hx110.size
      refine wp_seq_k (fun K118 hK118 => ?_)
      refine wp_seq_k (fun K119 hK119 => ?_)
      refine wp_region_lit ?_
      refine wpl_op (i := 0) rfl (o_val (v := (.int .i64 (k : Nat))) hF109 rfl rfl rfl rfl (rn_move (hF109.get rfl)) ?_)
      intro a120 hF121; clear hF109
      refine wpl_op (i := 1) rfl (o_val (v := (.int .i64 (2 * k : Nat))) hF121 rfl rfl rfl rfl (rn_mulN (a := 2) (b := k) rfl (hF121.get rfl) (by omega)) ?_)
      intro a122 hF123; clear hF121
      refine wpl_op (i := 2) rfl (o_val (v := (.slice A17 ((digsOf s).length) c18)) hF123 rfl rfl rfl rfl (rn_move (hF123.get rfl)) ?_)
      intro a124 hF125; clear hF123
      refine wpl_op (i := 3) rfl (o_val (v := (.int .i64 ((digsOf s).length : Nat))) hF125 rfl rfl rfl rfl (rn_len_slice Tryd.underlying30 (hF125.get rfl)) ?_)
      intro a126 hF127; clear hF125
      refine wpl_op (i := 4) rfl (o_val (v := (.bool (decide (((2 * k : Nat) : Int) < (((digsOf s).length : Nat) : Int))))) hF127 rfl rfl rfl rfl (rn_lss (hF127.get rfl) (hF127.get rfl)) ?_)
      intro a128 hF129; clear hF127
      refine wpList_nil ?_
      refine hK119 _ _ ?_
      clear hK119
      have hF130 := (((((((((hF129.nil.cons (hF129.get (t := 32) (v := (.bool (decide (((2 * k : Nat) : Int) < (((digsOf s).length : Nat) : Int))))) rfl)).cons (hF129.get (t := 4) (v := (.int .i64 (k : Nat))) rfl)).cons (hF129.get (t := 19) (v := (.bool (decide ((((digsOf s).length : Nat) : Int) = (1 : Int))))) rfl)).cons (hF129.get (t := 13) (v := (.bool (decide ((((digsOf s).length : Nat) : Int) = (0 : Int))))) rfl)).cons (hF129.get (t := 12) (v := (.int .i64 ((digsOf s).length : Nat))) rfl)).cons (hF129.get (t := 3) (v := (.slice A17 ((digsOf s).length) c18)) rfl)).cons (hF129.get (t := 8) (v := (.bool false)) rfl)).cons (hF129.get (t := 2) (v := (.bool false)) rfl)).cons (hF129.get (t := 0) (v := (.slice A s.length c)) rfl))
      clear hF129
      by_cases hc131 : ((2 * k : Nat) : Int) < (((digsOf s).length : Nat) : Int)
      · skip
        refine wp_cond_true (c_true hF130 rfl (decide_eq_true hc131)) ?_
        refine wp_skip ?_
        refine hK118 _ _ ?_
        clear hK118
        refine wp_block ?_
        refine wp_region_lit ?_
        refine wpl_op (i := 0) rfl (o_val (v := (.int .i64 (k : Nat))) hF130 rfl rfl rfl rfl (rn_move (hF130.get rfl)) ?_)
        intro a132 hF133; clear hF130
        refine wpl_op (i := 1) rfl (o_val (v := (.int .i64 (k * 2 : Nat))) hF133 rfl rfl rfl rfl (rn_mulN (a := k) (b := 2) (hF133.get rfl) rfl (by omega)) ?_)
        intro a134 hF135; clear hF133
        refine wpl_op (i := 2) rfl (o_val (v := (.int .i64 (k * 2 : Nat))) hF135 rfl rfl rfl rfl (rn_assign (hF135.get rfl)) ?_)
        intro a136 hF137; clear hF135
        refine wpList_nil ?_
        refine ⟨⟨k * 2, (j + 1), ((((((((hF137.nil.cons (q_get hF137 (t := 4) rfl (by first | rfl | (congr 1; omega) | (congr 1; done)))).cons (q_get hF137 (t := 19) rfl rfl)).cons (q_get hF137 (t := 13) rfl rfl)).cons (q_get hF137 (t := 12) rfl rfl)).cons (q_get hF137 (t := 3) rfl rfl)).cons (q_get hF137 (t := 8) rfl rfl)).cons (q_get hF137 (t := 2) rfl rfl)).cons (q_get hF137 (t := 0) rfl rfl)), (by rw [Nat.pow_succ]; omega), (by omega), (by omega), ((Ext.refl w).trans hx110), hf114, (by omega)⟩, ?_⟩
        rw [hF137.get (t := 4) rfl, hL116.get (t := 4) rfl]; simp [intOf] <;> omega
      · skip
        refine wp_cond_false (c_false hF130 rfl (decide_eq_false hc131)) ?_
        refine wp_exit ?_
        refine exit_then ?_
        refine exit_then ?_
        refine exit_here ?_
        refine hK106 _ _ ?_
        clear hK106
        refine wp_seq_k (fun K138 hK138 => ?_)
        have hkh : k = half (digsOf s).length := half_unique j hp111 (by omega) (by omega)
        have hx140 : ∃ W, w108.drew = W ∧ Ext w108 W := ⟨_, rfl, (Ext.refl _).drew⟩
        obtain ⟨w139, e141, hx140⟩ := hx140
        have z142 := hx140.size
        refine any_start (fun W => Ext w139 W) (fun i => i == 10 || i == 11) 12 #[false, false, false, false, false, false, false, false, false, false, false, false] rfl rfl rfl ?_
        rw [e141]; clear e141
        refine any_have (n1 := 2) (L1 := #[true, true, true, true, true, true, true, true, true, true, false, false]) (fun a' W => ∃ (g233 : Nat) (g173 : Nat), Sl 52 [(0, (.slice A s.length c)), (2, (.bool false)), (3, (.slice A17 ((digsOf s).length) c18)), (4, (.int .i64 (k : Nat))), (5, (.pointer (some ⟨g233, 0, none⟩))), (6, (.pointer (some ⟨g173, 0, none⟩))), (8, (.bool false)), (12, (.int .i64 ((digsOf s).length : Nat))), (13, (.bool (decide ((((digsOf s).length : Nat) : Int) = (0 : Int))))), (19, (.bool (decide ((((digsOf s).length : Nat) : Int) = (1 : Int))))), (32, (.bool (decide (((2 * k : Nat) : Int) < (((digsOf s).length : Nat) : Int))))), (38, (.agg (byteVals (treeD ((digsOf s).take k))).toArray)), (42, (.agg (byteVals (treeD ((digsOf s).drop k))).toArray))] a' ∧ Ext w139 W ∧ Blk W g233 26 (byteVals (List.replicate 32 0)) ∧ w139.heap.size ≤ g233 ∧ Blk W g173 26 (byteVals (List.replicate 32 0)) ∧ w139.heap.size ≤ g173 ∧ g233 ≠ g173) ?_ (fun st250 => ?_)
        · skip
          rintro a251 w252 ⟨g233, g173, hF253, hx254, b255, z256, b257, z258, z259⟩
          clear hF130
          have z260 := hx254.size
          have z261 := b255.lt
          have z262 := b257.lt
          refine any_one (i := 10) (by decide +kernel) rfl ?_
          refine o_store (cells := (byteVals (treeD ((digsOf s).take k)))) hF253 rfl rfl rfl rfl (hF253.get rfl) (hF253.get rfl) b255 ((by kernel_rfl : (Tryd.prog.info? 26).map (·.size) = some 32).trans (congrArg some (byteVals_len (treeD_len _)).symm)) ((byteVals_len (show List.length (List.replicate 32 0) = _ from List.length_replicate)).trans (byteVals_len (treeD_len _)).symm) (byteVals_one _) ?_
          intro w263 b264 hg265; have z266 := hg265.size
          refine ⟨fun h => absurd h (by decide), ?_⟩
          refine any_one (i := 11) (by decide +kernel) rfl ?_
          have b270 : Blk w263 g173 26 (byteVals (List.replicate 32 0)) := (b257.grownN hg265 (by omega))
          refine o_store (cells := (byteVals (treeD ((digsOf s).drop k)))) hF253 rfl rfl rfl rfl (hF253.get rfl) (hF253.get rfl) b270 ((by kernel_rfl : (Tryd.prog.info? 26).map (·.size) = some 32).trans (congrArg some (byteVals_len (treeD_len _)).symm)) ((byteVals_len (show List.length (List.replicate 32 0) = _ from List.length_replicate)).trans (byteVals_len (treeD_len _)).symm) (byteVals_one _) ?_
          intro w267 b268 hg269; have z271 := hg269.size
          refine ⟨fun h => absurd h (by decide), ?_⟩
          refine any_nil (by decide +kernel) ?_
          refine hK138 _ _ ?_
          clear hK138
          refine wp_seq_k (fun K272 hK272 => ?_)
          have hx274 : ∃ W, w267.drew = W ∧ Ext w267 W := ⟨_, rfl, (Ext.refl _).drew⟩
          obtain ⟨w273, e275, hx274⟩ := hx274
          have z276 := hx274.size
          refine any_start (fun W => Ext w273 W ∧ Blk W g233 26 (byteVals (treeD ((digsOf s).take k))) ∧ Blk W g173 26 (byteVals (treeD ((digsOf s).drop k)))) (fun i => false) 10 #[false, false, false, false, false, false, false, false, false, false] rfl rfl rfl ?_
          rw [e275]; clear e275
          refine any_have (n1 := 5) (L1 := #[true, true, true, true, false, true, false, false, false, false]) (fun a' W => ∃ (g292 : Nat), Sl 52 [(0, (.slice A s.length c)), (2, (.bool false)), (3, (.slice A17 ((digsOf s).length) c18)), (4, (.int .i64 (k : Nat))), (5, (.pointer (some ⟨g233, 0, none⟩))), (6, (.pointer (some ⟨g173, 0, none⟩))), (8, (.bool false)), (12, (.int .i64 ((digsOf s).length : Nat))), (13, (.bool (decide ((((digsOf s).length : Nat) : Int) = (0 : Int))))), (19, (.bool (decide ((((digsOf s).length : Nat) : Int) = (1 : Int))))), (32, (.bool (decide (((2 * k : Nat) : Int) < (((digsOf s).length : Nat) : Int))))), (44, (.agg (byteVals (treeD (digsOf s))).toArray)), (45, (.slice (some ⟨g292, 0, none⟩) 0 0)), (46, (.slice (some ⟨g233, 0, none⟩) 32 32)), (48, (.slice (some ⟨g173, 0, none⟩) 32 32))] a' ∧ Ext w273 W ∧ Blk W g292 5 [] ∧ w273.heap.size ≤ g292) ?_ (fun st352 => ?_)
          · skip
            rintro a353 w354 ⟨g292, hF355, hx356, b357, z358⟩
            clear hF253
            have z359 := hx356.size
            have z360 := b357.lt
            refine any_one (i := 4) (by decide +kernel) rfl ?_
            have b362 : Blk w354 g233 26 (byteVals (treeD ((digsOf s).take k))) := (((b264.grownN hg269 (by omega)).ext hx274).ext hx356)
            have hf371 := (own_blk0 (k := 1) b357)
            refine o_appB (zs := byteVals (treeD ((digsOf s).take k))) El22 hF355 rfl rfl rfl rfl rfl (hF355.get rfl) (hF355.get rfl) hf371 (Fl.cel (Fl.blk (S := fun b => b = g233) (k := 1) (n := 32) (c := 32) b362 (by rw [byteVals_len (treeD_len _), Nat.mul_one]) (byteVals_one _) (by omega) rfl)).2.2 (by omega) (by omega) (by omega) (List.nil_append _) ?_
            intro A363 c364 w365 a372 hF373 r366 hg367 z368 z369 hnb370; clear hF355; have z374 := hg367.size
            have b375 : Blk w365 g233 26 (byteVals (treeD ((digsOf s).take k))) := (grown_blk hf371 hg367 b362 (by decide))
            have b376 : Blk w365 g173 26 (byteVals (treeD ((digsOf s).drop k))) := (grown_blk hf371 hg367 ((b268.ext hx274).ext hx356) (by decide))
            refine ⟨fun _ _ => ⟨(ext_row ((Ext.refl w273).trans hx356) hg367 hf371 (by omega)), b375, b376⟩, ?_⟩
            refine any_one (i := 6) (by decide +kernel) rfl ?_
            have hf385 := r366
            refine o_appB (zs := byteVals ((treeD ((digsOf s).take k)) ++ (treeD ((digsOf s).drop k)))) El22 hF373 rfl rfl rfl rfl rfl (hF373.get rfl) (hF373.get rfl) hf385 (Fl.cel (Fl.blk (S := fun b => b = g173) (k := 1) (n := 32) (c := 32) b376 (by rw [byteVals_len (treeD_len _), Nat.mul_one]) (byteVals_one _) (by omega) rfl)).2.2 (by omega) (by omega) (by omega) (byteVals_app _ _) ?_
            intro A377 c378 w379 a386 hF387 r380 hg381 z382 z383 hnb384; clear hF373; have z388 := hg381.size
            have b389 : Blk w379 g233 26 (byteVals (treeD ((digsOf s).take k))) := (grown_blk hf385 hg381 b375 (by decide))
            have b390 : Blk w379 g173 26 (byteVals (treeD ((digsOf s).drop k))) := (grown_blk hf385 hg381 b376 (by decide))
            refine ⟨fun _ _ => ⟨(ext_row (ext_row ((Ext.refl w273).trans hx356) hg367 hf371 (by omega)) hg381 hf385 (by omega)), b389, b390⟩, ?_⟩
            refine any_one (i := 7) (by decide +kernel) rfl ?_
            refine o_call hF387 rfl rfl rfl rfl (rn_call (args2 rfl (hF387.get rfl)) rfl (by kernel_rfl)) (tagged_at ([110, 111, 100, 101]) (v := (.slice A377 ((0 + 32) + 32) c378)) (n := (0 + 32) + 32) ((treeD ((digsOf s).take k)) ++ (treeD ((digsOf s).drop k))) _ (Fl.own (S := fun b => g292 ≤ b) r380 (fun b hb => hb) (byteVals_one _)) (hG.ext (ext_row (ext_row ((((((((Ext.refl w).trans hx110).trans hx140).trans hx254).grownN hg265 (by omega)).grownN hg269 (by omega)).trans hx274).trans hx356) hg367 hf371 (by omega)) hg381 hf385 (by omega))) (by simp <;> omega) (by omega)) ?_
            rintro _ w391 ⟨rfl, hx392⟩
            refine ⟨_, rfl, ?_⟩; intro a393 hF394; clear hF387; have z395 := hx392.size
            have b396 : Blk w391 g233 26 (byteVals (treeD ((digsOf s).take k))) := (b389.ext hx392)
            have b397 : Blk w391 g173 26 (byteVals (treeD ((digsOf s).drop k))) := (b390.ext hx392)
            refine ⟨fun _ _ => ⟨((ext_row (ext_row ((Ext.refl w273).trans hx356) hg367 hf371 (by omega)) hg381 hf385 (by omega)).trans hx392), b396, b397⟩, ?_⟩
            refine any_pure (i := 8) (v := (.bool (decide (treeD (digsOf s) = tagged ([110, 111, 100, 101]) ((treeD ((digsOf s).take k)) ++ (treeD ((digsOf s).drop k))))))) hF394 (by decide +kernel) (by decide +kernel) rfl rfl rfl rfl (fun _ _ _ _ h => h) rfl (fun W => (rn_eqA Tryd.underlying26 Tryd.underlying5 (by kernel_rfl : (Tryd.prog.info? 5).map (·.size) = some 1) (by kernel_rfl) (hF394.get rfl) (hF394.get rfl) (treeD_len _) (tagged_len _ _))) ?_
            intro a398 hF399; clear hF394
            refine any_pure (i := 9) (v := (.bool (decide (treeD (digsOf s) = tagged ([110, 111, 100, 101]) ((treeD ((digsOf s).take k)) ++ (treeD ((digsOf s).drop k))))))) hF399 (by decide +kernel) (by decide +kernel) rfl rfl rfl rfl (fun _ _ _ _ h => h) rfl (fun W => (rn_assign (hF399.get rfl))) ?_
            intro a400 hF401; clear hF399
            refine any_nil (by decide +kernel) ?_
            refine hK272 _ _ ?_
            clear hK272
            have hF402 := (((((((((((hF401.nil.cons (hF401.get (t := 32) (v := (.bool (decide (((2 * k : Nat) : Int) < (((digsOf s).length : Nat) : Int))))) rfl)).cons (hF401.get (t := 19) (v := (.bool (decide ((((digsOf s).length : Nat) : Int) = (1 : Int))))) rfl)).cons (hF401.get (t := 13) (v := (.bool (decide ((((digsOf s).length : Nat) : Int) = (0 : Int))))) rfl)).cons (hF401.get (t := 12) (v := (.int .i64 ((digsOf s).length : Nat))) rfl)).cons (hF401.get (t := 8) (v := (.bool false)) rfl)).cons (hF401.get (t := 6) (v := (.pointer (some ⟨g173, 0, none⟩))) rfl)).cons (hF401.get (t := 5) (v := (.pointer (some ⟨g233, 0, none⟩))) rfl)).cons (hF401.get (t := 4) (v := (.int .i64 (k : Nat))) rfl)).cons (hF401.get (t := 3) (v := (.slice A17 ((digsOf s).length) c18)) rfl)).cons (hF401.get (t := 2) (v := (.bool (decide (treeD (digsOf s) = tagged ([110, 111, 100, 101]) ((treeD ((digsOf s).take k)) ++ (treeD ((digsOf s).drop k))))))) rfl)).cons (hF401.get (t := 0) (v := (.slice A s.length c)) rfl))
            clear hF401
            refine wp_ret ?_
            refine ret1 hF402 rfl rfl ?_
            exact ⟨congrArg (fun b => Ending.returned (.bool b)) ((decide_eq_true (by rw [tree_two' (l := digsOf s) (by omega), ← hkh]; rfl)) : decide (treeD (digsOf s) = tagged ([110, 111, 100, 101]) ((treeD ((digsOf s).take k)) ++ (treeD ((digsOf s).drop k)))) = true), ((ext_row (ext_row ((((((((Ext.refl w).trans hx110).trans hx140).trans hx254).grownN hg265 (by omega)).grownN hg269 (by omega)).trans hx274).trans hx356) hg367 hf371 (by omega)) hg381 hf385 (by omega)).trans hx392)⟩
          refine any_pure (i := 0) (v := (.slice A17 ((digsOf s).length) c18)) hF253 (by decide +kernel) (by decide +kernel) rfl rfl rfl rfl (fun _ _ _ _ h => h) rfl (fun W => (rn_move (hF253.get rfl))) ?_
          intro a403 hF404; clear hF253
          refine any_pure (i := 3) (v := (.slice (some ⟨g233, 0, none⟩) 32 32)) hF404 (by decide +kernel) (by decide +kernel) rfl rfl rfl rfl (fun _ _ _ _ h => h) rfl (fun W => (rn_arrAll Tryd.underlying26 (by kernel_rfl : (Tryd.prog.info? 5).map (·.size) = some 1) (hF404.get rfl))) ?_
          intro a405 hF406; clear hF404
          refine any_pure (i := 5) (v := (.slice (some ⟨g173, 0, none⟩) 32 32)) hF406 (by decide +kernel) (by decide +kernel) rfl rfl rfl rfl (fun _ _ _ _ h => h) rfl (fun W => (rn_arrAll Tryd.underlying26 (by kernel_rfl : (Tryd.prog.info? 5).map (·.size) = some 1) (hF406.get rfl))) ?_
          intro a407 hF408; clear hF406
          refine any_two (i := 1) (k := 2) (by decide +kernel) rfl rfl ?_ ?_
          · skip
            have d409 := (hf114.pres ((((((Pres.refl w108).ext hx140).ext hx254).grownN hg265 (fun h => by simp only [Clip] at h; omega)).grownN hg269 (fun h => by simp only [Clip] at h; omega)).ext hx274))
            have hf410 := d409
            refine o_call hF408 rfl rfl rfl rfl (rn_call (args1 (hF408.get rfl)) rfl (by kernel_rfl)) (tree_at (digsOf s) _ (n := (digsOf s).length) (v := (.slice A17 ((digsOf s).length) c18)) (digsOf_32 _) hf410 (hG.ext (((((((Ext.refl w).trans hx110).trans hx140).trans hx254).grownN hg265 (by omega)).grownN hg269 (by omega)).trans hx274))) ?_
            rintro _ w411 ⟨rfl, hx412⟩
            refine ⟨_, rfl, ?_⟩; intro a413 hF414; clear hF408; have z415 := hx412.size
            have b416 : Blk w411 g233 26 (byteVals (treeD ((digsOf s).take k))) := (((b264.grownN hg269 (by omega)).ext hx274).ext hx412)
            have b417 : Blk w411 g173 26 (byteVals (treeD ((digsOf s).drop k))) := ((b268.ext hx274).ext hx412)
            refine ⟨fun _ _ => ⟨((Ext.refl w273).trans hx412), b416, b417⟩, ?_⟩
            refine any_one (i := 2) (by decide +kernel) rfl ?_
            refine o_new (fun g => (.slice (some ⟨g, 0, none⟩) 0 0)) [] 5 hF414 rfl rfl rfl rfl (rn_buildSlice (parts0 ) (by kernel_rfl)) ?_
            intro g418 w419 a424 hF425 z422 z423 b420 hx421; clear hF414
            have b426 : Blk w419 g233 26 (byteVals (treeD ((digsOf s).take k))) := (b416.ext hx421)
            have b427 : Blk w419 g173 26 (byteVals (treeD ((digsOf s).drop k))) := (b417.ext hx421)
            refine ⟨fun _ _ => ⟨(((Ext.refl w273).trans hx412).trans hx421), b426, b427⟩, ?_⟩
            exact st352 _ _ ⟨g418, (((((((((((((((hF425.nil.cons (hF425.get (t := 48) (v := (.slice (some ⟨g173, 0, none⟩) 32 32)) rfl)).cons (hF425.get (t := 46) (v := (.slice (some ⟨g233, 0, none⟩) 32 32)) rfl)).cons (hF425.get (t := 45) (v := (.slice (some ⟨g418, 0, none⟩) 0 0)) rfl)).cons (hF425.get (t := 44) (v := (.agg (byteVals (treeD (digsOf s))).toArray)) rfl)).cons (hF425.get (t := 32) (v := (.bool (decide (((2 * k : Nat) : Int) < (((digsOf s).length : Nat) : Int))))) rfl)).cons (hF425.get (t := 19) (v := (.bool (decide ((((digsOf s).length : Nat) : Int) = (1 : Int))))) rfl)).cons (hF425.get (t := 13) (v := (.bool (decide ((((digsOf s).length : Nat) : Int) = (0 : Int))))) rfl)).cons (hF425.get (t := 12) (v := (.int .i64 ((digsOf s).length : Nat))) rfl)).cons (hF425.get (t := 8) (v := (.bool false)) rfl)).cons (hF425.get (t := 6) (v := (.pointer (some ⟨g173, 0, none⟩))) rfl)).cons (hF425.get (t := 5) (v := (.pointer (some ⟨g233, 0, none⟩))) rfl)).cons (hF425.get (t := 4) (v := (.int .i64 (k : Nat))) rfl)).cons (hF425.get (t := 3) (v := (.slice A17 ((digsOf s).length) c18)) rfl)).cons (hF425.get (t := 2) (v := (.bool false)) rfl)).cons (hF425.get (t := 0) (v := (.slice A s.length c)) rfl)), (((Ext.refl w273).trans hx412).trans hx421), b420, (by omega)⟩
          · skip
            refine o_new (fun g => (.slice (some ⟨g, 0, none⟩) 0 0)) [] 5 hF408 rfl rfl rfl rfl (rn_buildSlice (parts0 ) (by kernel_rfl)) ?_
            intro g428 w429 a434 hF435 z432 z433 b430 hx431; clear hF408
            have b436 : Blk w429 g233 26 (byteVals (treeD ((digsOf s).take k))) := (((b264.grownN hg269 (by omega)).ext hx274).ext hx431)
            have b437 : Blk w429 g173 26 (byteVals (treeD ((digsOf s).drop k))) := ((b268.ext hx274).ext hx431)
            refine ⟨fun _ _ => ⟨((Ext.refl w273).trans hx431), b436, b437⟩, ?_⟩
            refine any_one (i := 1) (by decide +kernel) rfl ?_
            have d438 := (hf114.pres (((((((Pres.refl w108).ext hx140).ext hx254).grownN hg265 (fun h => by simp only [Clip] at h; omega)).grownN hg269 (fun h => by simp only [Clip] at h; omega)).ext hx274).ext hx431))
            have hf439 := d438
            refine o_call hF435 rfl rfl rfl rfl (rn_call (args1 (hF435.get rfl)) rfl (by kernel_rfl)) (tree_at (digsOf s) _ (n := (digsOf s).length) (v := (.slice A17 ((digsOf s).length) c18)) (digsOf_32 _) hf439 (hG.ext ((((((((Ext.refl w).trans hx110).trans hx140).trans hx254).grownN hg265 (by omega)).grownN hg269 (by omega)).trans hx274).trans hx431))) ?_
            rintro _ w440 ⟨rfl, hx441⟩
            refine ⟨_, rfl, ?_⟩; intro a442 hF443; clear hF435; have z444 := hx441.size
            have b445 : Blk w440 g233 26 (byteVals (treeD ((digsOf s).take k))) := (b436.ext hx441)
            have b446 : Blk w440 g173 26 (byteVals (treeD ((digsOf s).drop k))) := (b437.ext hx441)
            refine ⟨fun _ _ => ⟨(((Ext.refl w273).trans hx431).trans hx441), b445, b446⟩, ?_⟩
            have b447 : Blk w440 g428 5 [] := (b430.ext hx441)
            exact st352 _ _ ⟨g428, (((((((((((((((hF443.nil.cons (hF443.get (t := 48) (v := (.slice (some ⟨g173, 0, none⟩) 32 32)) rfl)).cons (hF443.get (t := 46) (v := (.slice (some ⟨g233, 0, none⟩) 32 32)) rfl)).cons (hF443.get (t := 45) (v := (.slice (some ⟨g428, 0, none⟩) 0 0)) rfl)).cons (hF443.get (t := 44) (v := (.agg (byteVals (treeD (digsOf s))).toArray)) rfl)).cons (hF443.get (t := 32) (v := (.bool (decide (((2 * k : Nat) : Int) < (((digsOf s).length : Nat) : Int))))) rfl)).cons (hF443.get (t := 19) (v := (.bool (decide ((((digsOf s).length : Nat) : Int) = (1 : Int))))) rfl)).cons (hF443.get (t := 13) (v := (.bool (decide ((((digsOf s).length : Nat) : Int) = (0 : Int))))) rfl)).cons (hF443.get (t := 12) (v := (.int .i64 ((digsOf s).length : Nat))) rfl)).cons (hF443.get (t := 8) (v := (.bool false)) rfl)).cons (hF443.get (t := 6) (v := (.pointer (some ⟨g173, 0, none⟩))) rfl)).cons (hF443.get (t := 5) (v := (.pointer (some ⟨g233, 0, none⟩))) rfl)).cons (hF443.get (t := 4) (v := (.int .i64 (k : Nat))) rfl)).cons (hF443.get (t := 3) (v := (.slice A17 ((digsOf s).length) c18)) rfl)).cons (hF443.get (t := 2) (v := (.bool false)) rfl)).cons (hF443.get (t := 0) (v := (.slice A s.length c)) rfl)), (((Ext.refl w273).trans hx431).trans hx441), b447, (by omega)⟩
        refine any_have (n1 := 3) (L1 := #[true, true, true, true, true, true, true, true, false, true, false, false]) (fun a' W => ∃ (g173 : Nat), Sl 52 [(0, (.slice A s.length c)), (2, (.bool false)), (3, (.slice A17 ((digsOf s).length) c18)), (4, (.int .i64 (k : Nat))), (6, (.pointer (some ⟨g173, 0, none⟩))), (8, (.bool false)), (12, (.int .i64 ((digsOf s).length : Nat))), (13, (.bool (decide ((((digsOf s).length : Nat) : Int) = (0 : Int))))), (19, (.bool (decide ((((digsOf s).length : Nat) : Int) = (1 : Int))))), (32, (.bool (decide (((2 * k : Nat) : Int) < (((digsOf s).length : Nat) : Int))))), (38, (.agg (byteVals (treeD ((digsOf s).take k))).toArray)), (42, (.agg (byteVals (treeD ((digsOf s).drop k))).toArray))] a' ∧ Ext w139 W ∧ Blk W g173 26 (byteVals (List.replicate 32 0)) ∧ w139.heap.size ≤ g173) ?_ (fun st448 => ?_)
        · skip
          rintro a449 w450 ⟨g173, hF451, hx452, b453, z454⟩
          clear hF130
          have z455 := hx452.size
          have z456 := b453.lt
          refine any_one (i := 8) (by decide +kernel) rfl ?_
          refine o_new (fun g => (.pointer (some ⟨g, 0, none⟩))) (byteVals (List.replicate 32 0)) 26 hF451 rfl rfl rfl rfl (by kernel_rfl) ?_
          intro g457 w458 a463 hF464 z461 z462 b459 hx460; clear hF451
          refine ⟨fun _ _ => (((Ext.refl w139).trans hx452).trans hx460), ?_⟩
          have b465 : Blk w458 g173 26 (byteVals (List.replicate 32 0)) := (b453.ext hx460)
          exact st250 _ _ ⟨g457, g173, (((((((((((((hF464.nil.cons (hF464.get (t := 42) (v := (.agg (byteVals (treeD ((digsOf s).drop k))).toArray)) rfl)).cons (hF464.get (t := 38) (v := (.agg (byteVals (treeD ((digsOf s).take k))).toArray)) rfl)).cons (hF464.get (t := 32) (v := (.bool (decide (((2 * k : Nat) : Int) < (((digsOf s).length : Nat) : Int))))) rfl)).cons (hF464.get (t := 19) (v := (.bool (decide ((((digsOf s).length : Nat) : Int) = (1 : Int))))) rfl)).cons (hF464.get (t := 13) (v := (.bool (decide ((((digsOf s).length : Nat) : Int) = (0 : Int))))) rfl)).cons (hF464.get (t := 12) (v := (.int .i64 ((digsOf s).length : Nat))) rfl)).cons (hF464.get (t := 8) (v := (.bool false)) rfl)).cons (hF464.get (t := 6) (v := (.pointer (some ⟨g173, 0, none⟩))) rfl)).cons (hF464.get (t := 5) (v := (.pointer (some ⟨g457, 0, none⟩))) rfl)).cons (hF464.get (t := 4) (v := (.int .i64 (k : Nat))) rfl)).cons (hF464.get (t := 3) (v := (.slice A17 ((digsOf s).length) c18)) rfl)).cons (hF464.get (t := 2) (v := (.bool false)) rfl)).cons (hF464.get (t := 0) (v := (.slice A s.length c)) rfl)), (((Ext.refl w139).trans hx452).trans hx460), b459, (by omega), b465, (by omega), (by omega)⟩
        refine any_have (n1 := 3) (L1 := #[true, true, true, true, true, true, true, true, true, false, false, false]) (fun a' W => ∃ (g225 : Nat), Sl 52 [(0, (.slice A s.length c)), (2, (.bool false)), (3, (.slice A17 ((digsOf s).length) c18)), (4, (.int .i64 (k : Nat))), (5, (.pointer (some ⟨g225, 0, none⟩))), (8, (.bool false)), (12, (.int .i64 ((digsOf s).length : Nat))), (13, (.bool (decide ((((digsOf s).length : Nat) : Int) = (0 : Int))))), (19, (.bool (decide ((((digsOf s).length : Nat) : Int) = (1 : Int))))), (32, (.bool (decide (((2 * k : Nat) : Int) < (((digsOf s).length : Nat) : Int))))), (38, (.agg (byteVals (treeD ((digsOf s).take k))).toArray)), (42, (.agg (byteVals (treeD ((digsOf s).drop k))).toArray))] a' ∧ Ext w139 W ∧ Blk W g225 26 (byteVals (List.replicate 32 0)) ∧ w139.heap.size ≤ g225) ?_ (fun st466 => ?_)
        · skip
          rintro a467 w468 ⟨g225, hF469, hx470, b471, z472⟩
          clear hF130
          have z473 := hx470.size
          have z474 := b471.lt
          refine any_one (i := 9) (by decide +kernel) rfl ?_
          refine o_new (fun g => (.pointer (some ⟨g, 0, none⟩))) (byteVals (List.replicate 32 0)) 26 hF469 rfl rfl rfl rfl (by kernel_rfl) ?_
          intro g475 w476 a481 hF482 z479 z480 b477 hx478; clear hF469
          refine ⟨fun _ _ => (((Ext.refl w139).trans hx470).trans hx478), ?_⟩
          have b483 : Blk w476 g225 26 (byteVals (List.replicate 32 0)) := (b471.ext hx478)
          exact st250 _ _ ⟨g225, g475, (((((((((((((hF482.nil.cons (hF482.get (t := 42) (v := (.agg (byteVals (treeD ((digsOf s).drop k))).toArray)) rfl)).cons (hF482.get (t := 38) (v := (.agg (byteVals (treeD ((digsOf s).take k))).toArray)) rfl)).cons (hF482.get (t := 32) (v := (.bool (decide (((2 * k : Nat) : Int) < (((digsOf s).length : Nat) : Int))))) rfl)).cons (hF482.get (t := 19) (v := (.bool (decide ((((digsOf s).length : Nat) : Int) = (1 : Int))))) rfl)).cons (hF482.get (t := 13) (v := (.bool (decide ((((digsOf s).length : Nat) : Int) = (0 : Int))))) rfl)).cons (hF482.get (t := 12) (v := (.int .i64 ((digsOf s).length : Nat))) rfl)).cons (hF482.get (t := 8) (v := (.bool false)) rfl)).cons (hF482.get (t := 6) (v := (.pointer (some ⟨g475, 0, none⟩))) rfl)).cons (hF482.get (t := 5) (v := (.pointer (some ⟨g225, 0, none⟩))) rfl)).cons (hF482.get (t := 4) (v := (.int .i64 (k : Nat))) rfl)).cons (hF482.get (t := 3) (v := (.slice A17 ((digsOf s).length) c18)) rfl)).cons (hF482.get (t := 2) (v := (.bool false)) rfl)).cons (hF482.get (t := 0) (v := (.slice A s.length c)) rfl)), (((Ext.refl w139).trans hx470).trans hx478), b483, (by omega), b477, (by omega), (by omega)⟩
        refine any_have (n1 := 3) (L1 := #[true, true, true, true, true, true, true, false, true, true, false, false]) (fun a' W => ∃ (g217 : Nat) (g173 : Nat) (b153 : Nat) (o154 : Nat), Sl 52 [(0, (.slice A s.length c)), (2, (.bool false)), (3, (.slice A17 ((digsOf s).length) c18)), (4, (.int .i64 (k : Nat))), (5, (.pointer (some ⟨g217, 0, none⟩))), (6, (.pointer (some ⟨g173, 0, none⟩))), (8, (.bool false)), (12, (.int .i64 ((digsOf s).length : Nat))), (13, (.bool (decide ((((digsOf s).length : Nat) : Int) = (0 : Int))))), (19, (.bool (decide ((((digsOf s).length : Nat) : Int) = (1 : Int))))), (32, (.bool (decide (((2 * k : Nat) : Int) < (((digsOf s).length : Nat) : Int))))), (38, (.agg (byteVals (treeD ((digsOf s).take k))).toArray)), (41, (.slice (some ⟨b153, o154 + k * 32, none⟩) ((digsOf s).length - k) (c18 - k)))] a' ∧ Ext w139 W ∧ Blk W g217 26 (byteVals (List.replicate 32 0)) ∧ w139.heap.size ≤ g217 ∧ Blk W g173 26 (byteVals (List.replicate 32 0)) ∧ w139.heap.size ≤ g173 ∧ g217 ≠ g173 ∧ A17 = some ⟨b153, o154, none⟩) ?_ (fun st484 => ?_)
        · skip
          rintro a485 w486 ⟨g217, g173, b153, o154, hF487, hx488, b489, z490, b491, z492, z493, hA494⟩
          clear hF130
          have z495 := hx488.size
          have z496 := b489.lt
          have z497 := b491.lt
          refine any_one (i := 7) (by decide +kernel) rfl ?_
          have d498 := ((hf114.ext hx140).ext hx488)
          have hf499 := (Fl.drop_eq (j := k) d498 hA494 (by omega) (digVals_drop (digsOf_32 _) _))
          refine o_call hF487 rfl rfl rfl rfl (rn_call (args1 (hF487.get rfl)) rfl (by kernel_rfl)) (tree_at ((digsOf s).drop k) _ (n := (digsOf s).length - k) (v := (.slice (some ⟨b153, o154 + k * 32, none⟩) ((digsOf s).length - k) (c18 - k))) (All32.drop (digsOf_32 _) _) hf499 (hG.ext ((((Ext.refl w).trans hx110).trans hx140).trans hx488))) ?_
          rintro _ w500 ⟨rfl, hx501⟩
          refine ⟨_, rfl, ?_⟩; intro a502 hF503; clear hF487; have z504 := hx501.size
          refine ⟨fun _ _ => (((Ext.refl w139).trans hx488).trans hx501), ?_⟩
          have b505 : Blk w500 g217 26 (byteVals (List.replicate 32 0)) := (b489.ext hx501)
          have b506 : Blk w500 g173 26 (byteVals (List.replicate 32 0)) := (b491.ext hx501)
          exact st250 _ _ ⟨g217, g173, (((((((((((((hF503.nil.cons (hF503.get (t := 42) (v := (.agg (byteVals (treeD ((digsOf s).drop k))).toArray)) rfl)).cons (hF503.get (t := 38) (v := (.agg (byteVals (treeD ((digsOf s).take k))).toArray)) rfl)).cons (hF503.get (t := 32) (v := (.bool (decide (((2 * k : Nat) : Int) < (((digsOf s).length : Nat) : Int))))) rfl)).cons (hF503.get (t := 19) (v := (.bool (decide ((((digsOf s).length : Nat) : Int) = (1 : Int))))) rfl)).cons (hF503.get (t := 13) (v := (.bool (decide ((((digsOf s).length : Nat) : Int) = (0 : Int))))) rfl)).cons (hF503.get (t := 12) (v := (.int .i64 ((digsOf s).length : Nat))) rfl)).cons (hF503.get (t := 8) (v := (.bool false)) rfl)).cons (hF503.get (t := 6) (v := (.pointer (some ⟨g173, 0, none⟩))) rfl)).cons (hF503.get (t := 5) (v := (.pointer (some ⟨g217, 0, none⟩))) rfl)).cons (hF503.get (t := 4) (v := (.int .i64 (k : Nat))) rfl)).cons (hF503.get (t := 3) (v := (.slice A17 ((digsOf s).length) c18)) rfl)).cons (hF503.get (t := 2) (v := (.bool false)) rfl)).cons (hF503.get (t := 0) (v := (.slice A s.length c)) rfl)), (((Ext.refl w139).trans hx488).trans hx501), b505, (by omega), b506, (by omega), (by omega)⟩
        refine any_have (n1 := 4) (L1 := #[true, true, true, true, true, true, true, false, false, true, false, false]) (fun a' W => ∃ (g173 : Nat) (b153 : Nat) (o154 : Nat), Sl 52 [(0, (.slice A s.length c)), (2, (.bool false)), (3, (.slice A17 ((digsOf s).length) c18)), (4, (.int .i64 (k : Nat))), (6, (.pointer (some ⟨g173, 0, none⟩))), (8, (.bool false)), (12, (.int .i64 ((digsOf s).length : Nat))), (13, (.bool (decide ((((digsOf s).length : Nat) : Int) = (0 : Int))))), (19, (.bool (decide ((((digsOf s).length : Nat) : Int) = (1 : Int))))), (32, (.bool (decide (((2 * k : Nat) : Int) < (((digsOf s).length : Nat) : Int))))), (38, (.agg (byteVals (treeD ((digsOf s).take k))).toArray)), (41, (.slice (some ⟨b153, o154 + k * 32, none⟩) ((digsOf s).length - k) (c18 - k)))] a' ∧ Ext w139 W ∧ Blk W g173 26 (byteVals (List.replicate 32 0)) ∧ w139.heap.size ≤ g173 ∧ A17 = some ⟨b153, o154, none⟩) ?_ (fun st507 => ?_)
        · skip
          rintro a508 w509 ⟨g173, b153, o154, hF510, hx511, b512, z513, hA514⟩
          clear hF130
          have z515 := hx511.size
          have z516 := b512.lt
          refine any_two (i := 7) (k := 8) (by decide +kernel) rfl rfl ?_ ?_
          · skip
            have d517 := ((hf114.ext hx140).ext hx511)
            have hf518 := (Fl.drop_eq (j := k) d517 hA514 (by omega) (digVals_drop (digsOf_32 _) _))
            refine o_call hF510 rfl rfl rfl rfl (rn_call (args1 (hF510.get rfl)) rfl (by kernel_rfl)) (tree_at ((digsOf s).drop k) _ (n := (digsOf s).length - k) (v := (.slice (some ⟨b153, o154 + k * 32, none⟩) ((digsOf s).length - k) (c18 - k))) (All32.drop (digsOf_32 _) _) hf518 (hG.ext ((((Ext.refl w).trans hx110).trans hx140).trans hx511))) ?_
            rintro _ w519 ⟨rfl, hx520⟩
            refine ⟨_, rfl, ?_⟩; intro a521 hF522; clear hF510; have z523 := hx520.size
            refine ⟨fun _ _ => (((Ext.refl w139).trans hx511).trans hx520), ?_⟩
            have b524 : Blk w519 g173 26 (byteVals (List.replicate 32 0)) := (b512.ext hx520)
            exact st448 _ _ ⟨g173, ((((((((((((hF522.nil.cons (hF522.get (t := 42) (v := (.agg (byteVals (treeD ((digsOf s).drop k))).toArray)) rfl)).cons (hF522.get (t := 38) (v := (.agg (byteVals (treeD ((digsOf s).take k))).toArray)) rfl)).cons (hF522.get (t := 32) (v := (.bool (decide (((2 * k : Nat) : Int) < (((digsOf s).length : Nat) : Int))))) rfl)).cons (hF522.get (t := 19) (v := (.bool (decide ((((digsOf s).length : Nat) : Int) = (1 : Int))))) rfl)).cons (hF522.get (t := 13) (v := (.bool (decide ((((digsOf s).length : Nat) : Int) = (0 : Int))))) rfl)).cons (hF522.get (t := 12) (v := (.int .i64 ((digsOf s).length : Nat))) rfl)).cons (hF522.get (t := 8) (v := (.bool false)) rfl)).cons (hF522.get (t := 6) (v := (.pointer (some ⟨g173, 0, none⟩))) rfl)).cons (hF522.get (t := 4) (v := (.int .i64 (k : Nat))) rfl)).cons (hF522.get (t := 3) (v := (.slice A17 ((digsOf s).length) c18)) rfl)).cons (hF522.get (t := 2) (v := (.bool false)) rfl)).cons (hF522.get (t := 0) (v := (.slice A s.length c)) rfl)), (((Ext.refl w139).trans hx511).trans hx520), b524, (by omega)⟩
          · skip
            refine o_new (fun g => (.pointer (some ⟨g, 0, none⟩))) (byteVals (List.replicate 32 0)) 26 hF510 rfl rfl rfl rfl (by kernel_rfl) ?_
            intro g525 w526 a531 hF532 z529 z530 b527 hx528; clear hF510
            refine ⟨fun _ _ => (((Ext.refl w139).trans hx511).trans hx528), ?_⟩
            have b533 : Blk w526 g173 26 (byteVals (List.replicate 32 0)) := (b512.ext hx528)
            exact st484 _ _ ⟨g525, g173, b153, o154, (((((((((((((hF532.nil.cons (hF532.get (t := 41) (v := (.slice (some ⟨b153, o154 + k * 32, none⟩) ((digsOf s).length - k) (c18 - k))) rfl)).cons (hF532.get (t := 38) (v := (.agg (byteVals (treeD ((digsOf s).take k))).toArray)) rfl)).cons (hF532.get (t := 32) (v := (.bool (decide (((2 * k : Nat) : Int) < (((digsOf s).length : Nat) : Int))))) rfl)).cons (hF532.get (t := 19) (v := (.bool (decide ((((digsOf s).length : Nat) : Int) = (1 : Int))))) rfl)).cons (hF532.get (t := 13) (v := (.bool (decide ((((digsOf s).length : Nat) : Int) = (0 : Int))))) rfl)).cons (hF532.get (t := 12) (v := (.int .i64 ((digsOf s).length : Nat))) rfl)).cons (hF532.get (t := 8) (v := (.bool false)) rfl)).cons (hF532.get (t := 6) (v := (.pointer (some ⟨g173, 0, none⟩))) rfl)).cons (hF532.get (t := 5) (v := (.pointer (some ⟨g525, 0, none⟩))) rfl)).cons (hF532.get (t := 4) (v := (.int .i64 (k : Nat))) rfl)).cons (hF532.get (t := 3) (v := (.slice A17 ((digsOf s).length) c18)) rfl)).cons (hF532.get (t := 2) (v := (.bool false)) rfl)).cons (hF532.get (t := 0) (v := (.slice A s.length c)) rfl)), (((Ext.refl w139).trans hx511).trans hx528), b527, (by omega), b533, (by omega), (by omega), hA514⟩
        refine any_have (n1 := 4) (L1 := #[true, true, true, false, true, true, true, false, true, true, false, false]) (fun a' W => ∃ (g188 : Nat) (g173 : Nat) (b153 : Nat) (o154 : Nat), Sl 52 [(0, (.slice A s.length c)), (2, (.bool false)), (3, (.slice A17 ((digsOf s).length) c18)), (4, (.int .i64 (k : Nat))), (5, (.pointer (some ⟨g188, 0, none⟩))), (6, (.pointer (some ⟨g173, 0, none⟩))), (8, (.bool false)), (12, (.int .i64 ((digsOf s).length : Nat))), (13, (.bool (decide ((((digsOf s).length : Nat) : Int) = (0 : Int))))), (19, (.bool (decide ((((digsOf s).length : Nat) : Int) = (1 : Int))))), (32, (.bool (decide (((2 * k : Nat) : Int) < (((digsOf s).length : Nat) : Int))))), (37, (.slice A17 k c18)), (41, (.slice (some ⟨b153, o154 + k * 32, none⟩) ((digsOf s).length - k) (c18 - k)))] a' ∧ Ext w139 W ∧ Blk W g188 26 (byteVals (List.replicate 32 0)) ∧ w139.heap.size ≤ g188 ∧ Blk W g173 26 (byteVals (List.replicate 32 0)) ∧ w139.heap.size ≤ g173 ∧ g188 ≠ g173 ∧ A17 = some ⟨b153, o154, none⟩) ?_ (fun st534 => ?_)
        · skip
          rintro a535 w536 ⟨g188, g173, b153, o154, hF537, hx538, b539, z540, b541, z542, z543, hA544⟩
          clear hF130
          have z545 := hx538.size
          have z546 := b539.lt
          have z547 := b541.lt
          refine any_one (i := 3) (by decide +kernel) rfl ?_
          have d548 := ((hf114.ext hx140).ext hx538)
          have hf549 := (Fl.take_eq (j := k) d548 (by omega) (digVals_take (digsOf_32 _) _))
          refine o_call hF537 rfl rfl rfl rfl (rn_call (args1 (hF537.get rfl)) rfl (by kernel_rfl)) (tree_at ((digsOf s).take k) _ (n := k) (v := (.slice A17 k c18)) (All32.take (digsOf_32 _) _) hf549 (hG.ext ((((Ext.refl w).trans hx110).trans hx140).trans hx538))) ?_
          rintro _ w550 ⟨rfl, hx551⟩
          refine ⟨_, rfl, ?_⟩; intro a552 hF553; clear hF537; have z554 := hx551.size
          refine ⟨fun _ _ => (((Ext.refl w139).trans hx538).trans hx551), ?_⟩
          have b555 : Blk w550 g188 26 (byteVals (List.replicate 32 0)) := (b539.ext hx551)
          have b556 : Blk w550 g173 26 (byteVals (List.replicate 32 0)) := (b541.ext hx551)
          exact st484 _ _ ⟨g188, g173, b153, o154, (((((((((((((hF553.nil.cons (hF553.get (t := 41) (v := (.slice (some ⟨b153, o154 + k * 32, none⟩) ((digsOf s).length - k) (c18 - k))) rfl)).cons (hF553.get (t := 38) (v := (.agg (byteVals (treeD ((digsOf s).take k))).toArray)) rfl)).cons (hF553.get (t := 32) (v := (.bool (decide (((2 * k : Nat) : Int) < (((digsOf s).length : Nat) : Int))))) rfl)).cons (hF553.get (t := 19) (v := (.bool (decide ((((digsOf s).length : Nat) : Int) = (1 : Int))))) rfl)).cons (hF553.get (t := 13) (v := (.bool (decide ((((digsOf s).length : Nat) : Int) = (0 : Int))))) rfl)).cons (hF553.get (t := 12) (v := (.int .i64 ((digsOf s).length : Nat))) rfl)).cons (hF553.get (t := 8) (v := (.bool false)) rfl)).cons (hF553.get (t := 6) (v := (.pointer (some ⟨g173, 0, none⟩))) rfl)).cons (hF553.get (t := 5) (v := (.pointer (some ⟨g188, 0, none⟩))) rfl)).cons (hF553.get (t := 4) (v := (.int .i64 (k : Nat))) rfl)).cons (hF553.get (t := 3) (v := (.slice A17 ((digsOf s).length) c18)) rfl)).cons (hF553.get (t := 2) (v := (.bool false)) rfl)).cons (hF553.get (t := 0) (v := (.slice A s.length c)) rfl)), (((Ext.refl w139).trans hx538).trans hx551), b555, (by omega), b556, (by omega), (by omega), hA544⟩
        refine any_have (n1 := 4) (L1 := #[true, true, true, true, true, true, true, false, true, false, false, false]) (fun a' W => ∃ (g165 : Nat) (b153 : Nat) (o154 : Nat), Sl 52 [(0, (.slice A s.length c)), (2, (.bool false)), (3, (.slice A17 ((digsOf s).length) c18)), (4, (.int .i64 (k : Nat))), (5, (.pointer (some ⟨g165, 0, none⟩))), (8, (.bool false)), (12, (.int .i64 ((digsOf s).length : Nat))), (13, (.bool (decide ((((digsOf s).length : Nat) : Int) = (0 : Int))))), (19, (.bool (decide ((((digsOf s).length : Nat) : Int) = (1 : Int))))), (32, (.bool (decide (((2 * k : Nat) : Int) < (((digsOf s).length : Nat) : Int))))), (38, (.agg (byteVals (treeD ((digsOf s).take k))).toArray)), (41, (.slice (some ⟨b153, o154 + k * 32, none⟩) ((digsOf s).length - k) (c18 - k)))] a' ∧ Ext w139 W ∧ Blk W g165 26 (byteVals (List.replicate 32 0)) ∧ w139.heap.size ≤ g165 ∧ A17 = some ⟨b153, o154, none⟩) ?_ (fun st557 => ?_)
        · skip
          rintro a558 w559 ⟨g165, b153, o154, hF560, hx561, b562, z563, hA564⟩
          clear hF130
          have z565 := hx561.size
          have z566 := b562.lt
          refine any_two (i := 7) (k := 9) (by decide +kernel) rfl rfl ?_ ?_
          · skip
            have d567 := ((hf114.ext hx140).ext hx561)
            have hf568 := (Fl.drop_eq (j := k) d567 hA564 (by omega) (digVals_drop (digsOf_32 _) _))
            refine o_call hF560 rfl rfl rfl rfl (rn_call (args1 (hF560.get rfl)) rfl (by kernel_rfl)) (tree_at ((digsOf s).drop k) _ (n := (digsOf s).length - k) (v := (.slice (some ⟨b153, o154 + k * 32, none⟩) ((digsOf s).length - k) (c18 - k))) (All32.drop (digsOf_32 _) _) hf568 (hG.ext ((((Ext.refl w).trans hx110).trans hx140).trans hx561))) ?_
            rintro _ w569 ⟨rfl, hx570⟩
            refine ⟨_, rfl, ?_⟩; intro a571 hF572; clear hF560; have z573 := hx570.size
            refine ⟨fun _ _ => (((Ext.refl w139).trans hx561).trans hx570), ?_⟩
            have b574 : Blk w569 g165 26 (byteVals (List.replicate 32 0)) := (b562.ext hx570)
            exact st466 _ _ ⟨g165, ((((((((((((hF572.nil.cons (hF572.get (t := 42) (v := (.agg (byteVals (treeD ((digsOf s).drop k))).toArray)) rfl)).cons (hF572.get (t := 38) (v := (.agg (byteVals (treeD ((digsOf s).take k))).toArray)) rfl)).cons (hF572.get (t := 32) (v := (.bool (decide (((2 * k : Nat) : Int) < (((digsOf s).length : Nat) : Int))))) rfl)).cons (hF572.get (t := 19) (v := (.bool (decide ((((digsOf s).length : Nat) : Int) = (1 : Int))))) rfl)).cons (hF572.get (t := 13) (v := (.bool (decide ((((digsOf s).length : Nat) : Int) = (0 : Int))))) rfl)).cons (hF572.get (t := 12) (v := (.int .i64 ((digsOf s).length : Nat))) rfl)).cons (hF572.get (t := 8) (v := (.bool false)) rfl)).cons (hF572.get (t := 5) (v := (.pointer (some ⟨g165, 0, none⟩))) rfl)).cons (hF572.get (t := 4) (v := (.int .i64 (k : Nat))) rfl)).cons (hF572.get (t := 3) (v := (.slice A17 ((digsOf s).length) c18)) rfl)).cons (hF572.get (t := 2) (v := (.bool false)) rfl)).cons (hF572.get (t := 0) (v := (.slice A s.length c)) rfl)), (((Ext.refl w139).trans hx561).trans hx570), b574, (by omega)⟩
          · skip
            refine o_new (fun g => (.pointer (some ⟨g, 0, none⟩))) (byteVals (List.replicate 32 0)) 26 hF560 rfl rfl rfl rfl (by kernel_rfl) ?_
            intro g575 w576 a581 hF582 z579 z580 b577 hx578; clear hF560
            refine ⟨fun _ _ => (((Ext.refl w139).trans hx561).trans hx578), ?_⟩
            have b583 : Blk w576 g165 26 (byteVals (List.replicate 32 0)) := (b562.ext hx578)
            exact st484 _ _ ⟨g165, g575, b153, o154, (((((((((((((hF582.nil.cons (hF582.get (t := 41) (v := (.slice (some ⟨b153, o154 + k * 32, none⟩) ((digsOf s).length - k) (c18 - k))) rfl)).cons (hF582.get (t := 38) (v := (.agg (byteVals (treeD ((digsOf s).take k))).toArray)) rfl)).cons (hF582.get (t := 32) (v := (.bool (decide (((2 * k : Nat) : Int) < (((digsOf s).length : Nat) : Int))))) rfl)).cons (hF582.get (t := 19) (v := (.bool (decide ((((digsOf s).length : Nat) : Int) = (1 : Int))))) rfl)).cons (hF582.get (t := 13) (v := (.bool (decide ((((digsOf s).length : Nat) : Int) = (0 : Int))))) rfl)).cons (hF582.get (t := 12) (v := (.int .i64 ((digsOf s).length : Nat))) rfl)).cons (hF582.get (t := 8) (v := (.bool false)) rfl)).cons (hF582.get (t := 6) (v := (.pointer (some ⟨g575, 0, none⟩))) rfl)).cons (hF582.get (t := 5) (v := (.pointer (some ⟨g165, 0, none⟩))) rfl)).cons (hF582.get (t := 4) (v := (.int .i64 (k : Nat))) rfl)).cons (hF582.get (t := 3) (v := (.slice A17 ((digsOf s).length) c18)) rfl)).cons (hF582.get (t := 2) (v := (.bool false)) rfl)).cons (hF582.get (t := 0) (v := (.slice A s.length c)) rfl)), (((Ext.refl w139).trans hx561).trans hx578), b583, (by omega), b577, (by omega), (by omega), hA564⟩
        refine any_pure (i := 0) (v := (.slice A17 ((digsOf s).length) c18)) hF130 (by decide +kernel) (by decide +kernel) rfl rfl rfl rfl (fun _ _ _ _ h => h) rfl (fun W => (rn_move (hF130.get rfl))) ?_
        intro a584 hF585; clear hF130
        refine any_pure (i := 1) (v := (.int .i64 (k : Nat))) hF585 (by decide +kernel) (by decide +kernel) rfl rfl rfl rfl (fun _ _ _ _ h => h) rfl (fun W => (rn_move (hF585.get rfl))) ?_
        intro a586 hF587; clear hF585
        refine any_pure (i := 2) (v := (.slice A17 k c18)) hF587 (by decide +kernel) (by decide +kernel) rfl rfl rfl rfl (fun _ _ _ _ h => h) rfl (fun W => (rn_sliceHi Tryd.underlying30 (by kernel_rfl : (Tryd.prog.info? 26).map (·.size) = some 32) (hF587.get rfl) (hF587.get rfl) (by omega : (0 : Int) ≤ (k : Nat)) (by omega : ((k : Nat) : Int) ≤ ((c18 : Nat) : Int)))) ?_
        intro a588 hF589; clear hF587
        refine any_pure (i := 4) (v := (.slice A17 ((digsOf s).length) c18)) hF589 (by decide +kernel) (by decide +kernel) rfl rfl rfl rfl (fun _ _ _ _ h => h) rfl (fun W => (rn_move (hF589.get rfl))) ?_
        intro a590 hF591; clear hF589
        refine any_pure (i := 5) (v := (.int .i64 (k : Nat))) hF591 (by decide +kernel) (by decide +kernel) rfl rfl rfl rfl (fun _ _ _ _ h => h) rfl (fun W => (rn_move (hF591.get rfl))) ?_
        intro a592 hF593; clear hF591
        have d597 := (hf114.ext hx140)
        obtain ⟨b594, o595, hA596, -⟩ := Fl.at d597 (by omega)
        refine any_pure (i := 6) (v := (.slice (some ⟨b594, o595 + k * 32, none⟩) ((digsOf s).length - k) (c18 - k))) hF593 (by decide +kernel) (by decide +kernel) rfl rfl rfl rfl (fun _ _ _ _ h => h) rfl (fun W => (rn_sliceLo (l := k) Tryd.underlying30 (by kernel_rfl : (Tryd.prog.info? 26).map (·.size) = some 32) ((hF593.get rfl).trans (by rw [hA596])) (hF593.get rfl) (by omega : k ≤ (digsOf s).length) (by omega : k < c18))) ?_
        intro a598 hF599; clear hF593
        refine any_three (i := 3) (k := 8) (l := 9) (by decide +kernel) rfl rfl rfl ?_ ?_ ?_
        · skip
          have hf600 := (Fl.take_eq (j := k) d597 (by omega) (digVals_take (digsOf_32 _) _))
          refine o_call hF599 rfl rfl rfl rfl (rn_call (args1 (hF599.get rfl)) rfl (by kernel_rfl)) (tree_at ((digsOf s).take k) _ (n := k) (v := (.slice A17 k c18)) (All32.take (digsOf_32 _) _) hf600 (hG.ext (((Ext.refl w).trans hx110).trans hx140))) ?_
          rintro _ w601 ⟨rfl, hx602⟩
          refine ⟨_, rfl, ?_⟩; intro a603 hF604; clear hF599; have z605 := hx602.size
          refine ⟨fun _ _ => ((Ext.refl w139).trans hx602), ?_⟩
          refine any_three (i := 7) (k := 8) (l := 9) (by decide +kernel) rfl rfl rfl ?_ ?_ ?_
          · skip
            have d606 := ((hf114.ext hx140).ext hx602)
            have hf607 := (Fl.drop_eq (j := k) d606 hA596 (by omega) (digVals_drop (digsOf_32 _) _))
            refine o_call hF604 rfl rfl rfl rfl (rn_call (args1 (hF604.get rfl)) rfl (by kernel_rfl)) (tree_at ((digsOf s).drop k) _ (n := (digsOf s).length - k) (v := (.slice (some ⟨b594, o595 + k * 32, none⟩) ((digsOf s).length - k) (c18 - k))) (All32.drop (digsOf_32 _) _) hf607 (hG.ext ((((Ext.refl w).trans hx110).trans hx140).trans hx602))) ?_
            rintro _ w608 ⟨rfl, hx609⟩
            refine ⟨_, rfl, ?_⟩; intro a610 hF611; clear hF604; have z612 := hx609.size
            refine ⟨fun _ _ => (((Ext.refl w139).trans hx602).trans hx609), ?_⟩
            refine any_two (i := 8) (k := 9) (by decide +kernel) rfl rfl ?_ ?_
            · skip
              refine o_new (fun g => (.pointer (some ⟨g, 0, none⟩))) (byteVals (List.replicate 32 0)) 26 hF611 rfl rfl rfl rfl (by kernel_rfl) ?_
              intro g613 w614 a619 hF620 z617 z618 b615 hx616; clear hF611
              refine ⟨fun _ _ => ((((Ext.refl w139).trans hx602).trans hx609).trans hx616), ?_⟩
              exact st466 _ _ ⟨g613, ((((((((((((hF620.nil.cons (hF620.get (t := 42) (v := (.agg (byteVals (treeD ((digsOf s).drop k))).toArray)) rfl)).cons (hF620.get (t := 38) (v := (.agg (byteVals (treeD ((digsOf s).take k))).toArray)) rfl)).cons (hF620.get (t := 32) (v := (.bool (decide (((2 * k : Nat) : Int) < (((digsOf s).length : Nat) : Int))))) rfl)).cons (hF620.get (t := 19) (v := (.bool (decide ((((digsOf s).length : Nat) : Int) = (1 : Int))))) rfl)).cons (hF620.get (t := 13) (v := (.bool (decide ((((digsOf s).length : Nat) : Int) = (0 : Int))))) rfl)).cons (hF620.get (t := 12) (v := (.int .i64 ((digsOf s).length : Nat))) rfl)).cons (hF620.get (t := 8) (v := (.bool false)) rfl)).cons (hF620.get (t := 5) (v := (.pointer (some ⟨g613, 0, none⟩))) rfl)).cons (hF620.get (t := 4) (v := (.int .i64 (k : Nat))) rfl)).cons (hF620.get (t := 3) (v := (.slice A17 ((digsOf s).length) c18)) rfl)).cons (hF620.get (t := 2) (v := (.bool false)) rfl)).cons (hF620.get (t := 0) (v := (.slice A s.length c)) rfl)), ((((Ext.refl w139).trans hx602).trans hx609).trans hx616), b615, (by omega)⟩
            · skip
              refine o_new (fun g => (.pointer (some ⟨g, 0, none⟩))) (byteVals (List.replicate 32 0)) 26 hF611 rfl rfl rfl rfl (by kernel_rfl) ?_
              intro g621 w622 a627 hF628 z625 z626 b623 hx624; clear hF611
              refine ⟨fun _ _ => ((((Ext.refl w139).trans hx602).trans hx609).trans hx624), ?_⟩
              exact st448 _ _ ⟨g621, ((((((((((((hF628.nil.cons (hF628.get (t := 42) (v := (.agg (byteVals (treeD ((digsOf s).drop k))).toArray)) rfl)).cons (hF628.get (t := 38) (v := (.agg (byteVals (treeD ((digsOf s).take k))).toArray)) rfl)).cons (hF628.get (t := 32) (v := (.bool (decide (((2 * k : Nat) : Int) < (((digsOf s).length : Nat) : Int))))) rfl)).cons (hF628.get (t := 19) (v := (.bool (decide ((((digsOf s).length : Nat) : Int) = (1 : Int))))) rfl)).cons (hF628.get (t := 13) (v := (.bool (decide ((((digsOf s).length : Nat) : Int) = (0 : Int))))) rfl)).cons (hF628.get (t := 12) (v := (.int .i64 ((digsOf s).length : Nat))) rfl)).cons (hF628.get (t := 8) (v := (.bool false)) rfl)).cons (hF628.get (t := 6) (v := (.pointer (some ⟨g621, 0, none⟩))) rfl)).cons (hF628.get (t := 4) (v := (.int .i64 (k : Nat))) rfl)).cons (hF628.get (t := 3) (v := (.slice A17 ((digsOf s).length) c18)) rfl)).cons (hF628.get (t := 2) (v := (.bool false)) rfl)).cons (hF628.get (t := 0) (v := (.slice A s.length c)) rfl)), ((((Ext.refl w139).trans hx602).trans hx609).trans hx624), b623, (by omega)⟩
          · skip
            refine o_new (fun g => (.pointer (some ⟨g, 0, none⟩))) (byteVals (List.replicate 32 0)) 26 hF604 rfl rfl rfl rfl (by kernel_rfl) ?_
            intro g629 w630 a635 hF636 z633 z634 b631 hx632; clear hF604
            refine ⟨fun _ _ => (((Ext.refl w139).trans hx602).trans hx632), ?_⟩
            exact st557 _ _ ⟨g629, b594, o595, ((((((((((((hF636.nil.cons (hF636.get (t := 41) (v := (.slice (some ⟨b594, o595 + k * 32, none⟩) ((digsOf s).length - k) (c18 - k))) rfl)).cons (hF636.get (t := 38) (v := (.agg (byteVals (treeD ((digsOf s).take k))).toArray)) rfl)).cons (hF636.get (t := 32) (v := (.bool (decide (((2 * k : Nat) : Int) < (((digsOf s).length : Nat) : Int))))) rfl)).cons (hF636.get (t := 19) (v := (.bool (decide ((((digsOf s).length : Nat) : Int) = (1 : Int))))) rfl)).cons (hF636.get (t := 13) (v := (.bool (decide ((((digsOf s).length : Nat) : Int) = (0 : Int))))) rfl)).cons (hF636.get (t := 12) (v := (.int .i64 ((digsOf s).length : Nat))) rfl)).cons (hF636.get (t := 8) (v := (.bool false)) rfl)).cons (hF636.get (t := 5) (v := (.pointer (some ⟨g629, 0, none⟩))) rfl)).cons (hF636.get (t := 4) (v := (.int .i64 (k : Nat))) rfl)).cons (hF636.get (t := 3) (v := (.slice A17 ((digsOf s).length) c18)) rfl)).cons (hF636.get (t := 2) (v := (.bool false)) rfl)).cons (hF636.get (t := 0) (v := (.slice A s.length c)) rfl)), (((Ext.refl w139).trans hx602).trans hx632), b631, (by omega), hA596⟩
          · skip
            refine o_new (fun g => (.pointer (some ⟨g, 0, none⟩))) (byteVals (List.replicate 32 0)) 26 hF604 rfl rfl rfl rfl (by kernel_rfl) ?_
            intro g637 w638 a643 hF644 z641 z642 b639 hx640; clear hF604
            refine ⟨fun _ _ => (((Ext.refl w139).trans hx602).trans hx640), ?_⟩
            exact st507 _ _ ⟨g637, b594, o595, ((((((((((((hF644.nil.cons (hF644.get (t := 41) (v := (.slice (some ⟨b594, o595 + k * 32, none⟩) ((digsOf s).length - k) (c18 - k))) rfl)).cons (hF644.get (t := 38) (v := (.agg (byteVals (treeD ((digsOf s).take k))).toArray)) rfl)).cons (hF644.get (t := 32) (v := (.bool (decide (((2 * k : Nat) : Int) < (((digsOf s).length : Nat) : Int))))) rfl)).cons (hF644.get (t := 19) (v := (.bool (decide ((((digsOf s).length : Nat) : Int) = (1 : Int))))) rfl)).cons (hF644.get (t := 13) (v := (.bool (decide ((((digsOf s).length : Nat) : Int) = (0 : Int))))) rfl)).cons (hF644.get (t := 12) (v := (.int .i64 ((digsOf s).length : Nat))) rfl)).cons (hF644.get (t := 8) (v := (.bool false)) rfl)).cons (hF644.get (t := 6) (v := (.pointer (some ⟨g637, 0, none⟩))) rfl)).cons (hF644.get (t := 4) (v := (.int .i64 (k : Nat))) rfl)).cons (hF644.get (t := 3) (v := (.slice A17 ((digsOf s).length) c18)) rfl)).cons (hF644.get (t := 2) (v := (.bool false)) rfl)).cons (hF644.get (t := 0) (v := (.slice A s.length c)) rfl)), (((Ext.refl w139).trans hx602).trans hx640), b639, (by omega), hA596⟩
        · skip
          refine o_new (fun g => (.pointer (some ⟨g, 0, none⟩))) (byteVals (List.replicate 32 0)) 26 hF599 rfl rfl rfl rfl (by kernel_rfl) ?_
          intro g645 w646 a651 hF652 z649 z650 b647 hx648; clear hF599
          refine ⟨fun _ _ => ((Ext.refl w139).trans hx648), ?_⟩
          refine any_two (i := 3) (k := 9) (by decide +kernel) rfl rfl ?_ ?_
          · skip
            have d653 := ((hf114.ext hx140).ext hx648)
            have hf654 := (Fl.take_eq (j := k) d653 (by omega) (digVals_take (digsOf_32 _) _))
            refine o_call hF652 rfl rfl rfl rfl (rn_call (args1 (hF652.get rfl)) rfl (by kernel_rfl)) (tree_at ((digsOf s).take k) _ (n := k) (v := (.slice A17 k c18)) (All32.take (digsOf_32 _) _) hf654 (hG.ext ((((Ext.refl w).trans hx110).trans hx140).trans hx648))) ?_
            rintro _ w655 ⟨rfl, hx656⟩
            refine ⟨_, rfl, ?_⟩; intro a657 hF658; clear hF652; have z659 := hx656.size
            refine ⟨fun _ _ => (((Ext.refl w139).trans hx648).trans hx656), ?_⟩
            have b660 : Blk w655 g645 26 (byteVals (List.replicate 32 0)) := (b647.ext hx656)
            exact st557 _ _ ⟨g645, b594, o595, ((((((((((((hF658.nil.cons (hF658.get (t := 41) (v := (.slice (some ⟨b594, o595 + k * 32, none⟩) ((digsOf s).length - k) (c18 - k))) rfl)).cons (hF658.get (t := 38) (v := (.agg (byteVals (treeD ((digsOf s).take k))).toArray)) rfl)).cons (hF658.get (t := 32) (v := (.bool (decide (((2 * k : Nat) : Int) < (((digsOf s).length : Nat) : Int))))) rfl)).cons (hF658.get (t := 19) (v := (.bool (decide ((((digsOf s).length : Nat) : Int) = (1 : Int))))) rfl)).cons (hF658.get (t := 13) (v := (.bool (decide ((((digsOf s).length : Nat) : Int) = (0 : Int))))) rfl)).cons (hF658.get (t := 12) (v := (.int .i64 ((digsOf s).length : Nat))) rfl)).cons (hF658.get (t := 8) (v := (.bool false)) rfl)).cons (hF658.get (t := 5) (v := (.pointer (some ⟨g645, 0, none⟩))) rfl)).cons (hF658.get (t := 4) (v := (.int .i64 (k : Nat))) rfl)).cons (hF658.get (t := 3) (v := (.slice A17 ((digsOf s).length) c18)) rfl)).cons (hF658.get (t := 2) (v := (.bool false)) rfl)).cons (hF658.get (t := 0) (v := (.slice A s.length c)) rfl)), (((Ext.refl w139).trans hx648).trans hx656), b660, (by omega), hA596⟩
          · skip
            refine o_new (fun g => (.pointer (some ⟨g, 0, none⟩))) (byteVals (List.replicate 32 0)) 26 hF652 rfl rfl rfl rfl (by kernel_rfl) ?_
            intro g661 w662 a667 hF668 z665 z666 b663 hx664; clear hF652
            refine ⟨fun _ _ => (((Ext.refl w139).trans hx648).trans hx664), ?_⟩
            have b669 : Blk w662 g645 26 (byteVals (List.replicate 32 0)) := (b647.ext hx664)
            exact st534 _ _ ⟨g645, g661, b594, o595, (((((((((((((hF668.nil.cons (hF668.get (t := 41) (v := (.slice (some ⟨b594, o595 + k * 32, none⟩) ((digsOf s).length - k) (c18 - k))) rfl)).cons (hF668.get (t := 37) (v := (.slice A17 k c18)) rfl)).cons (hF668.get (t := 32) (v := (.bool (decide (((2 * k : Nat) : Int) < (((digsOf s).length : Nat) : Int))))) rfl)).cons (hF668.get (t := 19) (v := (.bool (decide ((((digsOf s).length : Nat) : Int) = (1 : Int))))) rfl)).cons (hF668.get (t := 13) (v := (.bool (decide ((((digsOf s).length : Nat) : Int) = (0 : Int))))) rfl)).cons (hF668.get (t := 12) (v := (.int .i64 ((digsOf s).length : Nat))) rfl)).cons (hF668.get (t := 8) (v := (.bool false)) rfl)).cons (hF668.get (t := 6) (v := (.pointer (some ⟨g661, 0, none⟩))) rfl)).cons (hF668.get (t := 5) (v := (.pointer (some ⟨g645, 0, none⟩))) rfl)).cons (hF668.get (t := 4) (v := (.int .i64 (k : Nat))) rfl)).cons (hF668.get (t := 3) (v := (.slice A17 ((digsOf s).length) c18)) rfl)).cons (hF668.get (t := 2) (v := (.bool false)) rfl)).cons (hF668.get (t := 0) (v := (.slice A s.length c)) rfl)), (((Ext.refl w139).trans hx648).trans hx664), b669, (by omega), b663, (by omega), (by omega), hA596⟩
        · skip
          refine o_new (fun g => (.pointer (some ⟨g, 0, none⟩))) (byteVals (List.replicate 32 0)) 26 hF599 rfl rfl rfl rfl (by kernel_rfl) ?_
          intro g670 w671 a676 hF677 z674 z675 b672 hx673; clear hF599
          refine ⟨fun _ _ => ((Ext.refl w139).trans hx673), ?_⟩
          refine any_two (i := 3) (k := 8) (by decide +kernel) rfl rfl ?_ ?_
          · skip
            have d678 := ((hf114.ext hx140).ext hx673)
            have hf679 := (Fl.take_eq (j := k) d678 (by omega) (digVals_take (digsOf_32 _) _))
            refine o_call hF677 rfl rfl rfl rfl (rn_call (args1 (hF677.get rfl)) rfl (by kernel_rfl)) (tree_at ((digsOf s).take k) _ (n := k) (v := (.slice A17 k c18)) (All32.take (digsOf_32 _) _) hf679 (hG.ext ((((Ext.refl w).trans hx110).trans hx140).trans hx673))) ?_
            rintro _ w680 ⟨rfl, hx681⟩
            refine ⟨_, rfl, ?_⟩; intro a682 hF683; clear hF677; have z684 := hx681.size
            refine ⟨fun _ _ => (((Ext.refl w139).trans hx673).trans hx681), ?_⟩
            have b685 : Blk w680 g670 26 (byteVals (List.replicate 32 0)) := (b672.ext hx681)
            exact st507 _ _ ⟨g670, b594, o595, ((((((((((((hF683.nil.cons (hF683.get (t := 41) (v := (.slice (some ⟨b594, o595 + k * 32, none⟩) ((digsOf s).length - k) (c18 - k))) rfl)).cons (hF683.get (t := 38) (v := (.agg (byteVals (treeD ((digsOf s).take k))).toArray)) rfl)).cons (hF683.get (t := 32) (v := (.bool (decide (((2 * k : Nat) : Int) < (((digsOf s).length : Nat) : Int))))) rfl)).cons (hF683.get (t := 19) (v := (.bool (decide ((((digsOf s).length : Nat) : Int) = (1 : Int))))) rfl)).cons (hF683.get (t := 13) (v := (.bool (decide ((((digsOf s).length : Nat) : Int) = (0 : Int))))) rfl)).cons (hF683.get (t := 12) (v := (.int .i64 ((digsOf s).length : Nat))) rfl)).cons (hF683.get (t := 8) (v := (.bool false)) rfl)).cons (hF683.get (t := 6) (v := (.pointer (some ⟨g670, 0, none⟩))) rfl)).cons (hF683.get (t := 4) (v := (.int .i64 (k : Nat))) rfl)).cons (hF683.get (t := 3) (v := (.slice A17 ((digsOf s).length) c18)) rfl)).cons (hF683.get (t := 2) (v := (.bool false)) rfl)).cons (hF683.get (t := 0) (v := (.slice A s.length c)) rfl)), (((Ext.refl w139).trans hx673).trans hx681), b685, (by omega), hA596⟩
          · skip
            refine o_new (fun g => (.pointer (some ⟨g, 0, none⟩))) (byteVals (List.replicate 32 0)) 26 hF677 rfl rfl rfl rfl (by kernel_rfl) ?_
            intro g686 w687 a692 hF693 z690 z691 b688 hx689; clear hF677
            refine ⟨fun _ _ => (((Ext.refl w139).trans hx673).trans hx689), ?_⟩
            have b694 : Blk w687 g670 26 (byteVals (List.replicate 32 0)) := (b672.ext hx689)
            exact st534 _ _ ⟨g686, g670, b594, o595, (((((((((((((hF693.nil.cons (hF693.get (t := 41) (v := (.slice (some ⟨b594, o595 + k * 32, none⟩) ((digsOf s).length - k) (c18 - k))) rfl)).cons (hF693.get (t := 37) (v := (.slice A17 k c18)) rfl)).cons (hF693.get (t := 32) (v := (.bool (decide (((2 * k : Nat) : Int) < (((digsOf s).length : Nat) : Int))))) rfl)).cons (hF693.get (t := 19) (v := (.bool (decide ((((digsOf s).length : Nat) : Int) = (1 : Int))))) rfl)).cons (hF693.get (t := 13) (v := (.bool (decide ((((digsOf s).length : Nat) : Int) = (0 : Int))))) rfl)).cons (hF693.get (t := 12) (v := (.int .i64 ((digsOf s).length : Nat))) rfl)).cons (hF693.get (t := 8) (v := (.bool false)) rfl)).cons (hF693.get (t := 6) (v := (.pointer (some ⟨g670, 0, none⟩))) rfl)).cons (hF693.get (t := 5) (v := (.pointer (some ⟨g686, 0, none⟩))) rfl)).cons (hF693.get (t := 4) (v := (.int .i64 (k : Nat))) rfl)).cons (hF693.get (t := 3) (v := (.slice A17 ((digsOf s).length) c18)) rfl)).cons (hF693.get (t := 2) (v := (.bool false)) rfl)).cons (hF693.get (t := 0) (v := (.slice A s.length c)) rfl)), (((Ext.refl w139).trans hx673).trans hx689), b688, (by omega), b694, (by omega), (by omega), hA596⟩

end Go.Proofs.YtgodliookpgliaaDoor
