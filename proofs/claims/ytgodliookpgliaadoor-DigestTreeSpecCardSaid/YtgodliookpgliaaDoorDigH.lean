/- Contracts of Tree and Reverse. -/
import Derived.Test.YtgodliookpgliaaDoorProg
import Derived.Test.YtgodliookpgliaaDoorDigG
import Derived.Test.YtgodliookpgliaaDoorWk8
import Derived.KernelRfl
namespace Go.Proofs.YtgodliookpgliaaDoor
open Go.RowKit

variable {S S' : Nat → Prop}

theorem tree_nil' {l : List (List UInt8)} (h : l.length = 0) : treeD l = tagged [101, 109, 112, 116, 121] [] := by rw [List.eq_nil_of_length_eq_zero h, treeD, tree_nil]; rfl
theorem tree_one' {l : List (List UInt8)} (h : l.length = 1) : treeD l = leafD (l.getD 0 []) := by rw [treeD, tree_one _ _ _ h]
theorem tree_two' {l : List (List UInt8)} (h : 2 ≤ l.length) : treeD l = nodeD (treeD (l.take (half l.length))) (treeD (l.drop (half l.length))) := by rw [treeD, tree_eq _ _ _ h]; rfl
set_option maxRecDepth 100000 in
set_option maxHeartbeats 1000000 in
theorem tree_ind : ∀ (N : Nat) (l : List (List UInt8)) (S : Nat → Prop) (w : World) {n : Nat} (v : Value) (_ : All32 l) (_ : Fl S w 32 v n (digVals l)) (_ : Glob w) (_ : l.length < N),
    Calls Tryd.prog 16 #[v] w (fun e w' => e = .returned (.agg (byteVals (treeD l)).toArray) ∧ Ext w w') := by
  intro N
  induction N with
  | zero => intro l S w n v _ _ _ h; omega
  | succ N ih0 =>
  intro l S w n v h32 hf0 hG hN
  have ih : ∀ (l' : List (List UInt8)) (w' : World) {n : Nat} {S : Nat → Prop} (v' : Value) (_ : All32 l') (_ : Fl S w' 32 v' n (digVals l')) (_ : Glob w') (_ : l'.length < l.length), Calls Tryd.prog 16 #[v'] w' (fun e w'' => e = .returned (.agg (byteVals (treeD l')).toArray) ∧ Ext w' w'') := fun l' w' n S v' a b c d => ih0 l' S w' v' a b c (by omega)
  clear ih0
  have hm := Fl.dlen hf0 h32
  subst hm
  obtain ⟨A, c, rfl, hcc0⟩ := hf0.form
  have hf := hf0
  have hc : Fl (Clip S w) w 32 (.slice A l.length c) l.length (digVals l) := hf.clip
  have hcc := (Fl.cel hc).2.1
  refine calls_enter (l := [(.slice A l.length c)]) Tryd.func16 rfl rfl rfl (fun aA hF => ?_)
  refine wp_seq_k (fun K1 hK1 => ?_)
  refine wp_region_lit ?_
  refine wpl_op (i := 0) rfl (o_new (fun g => (.pointer (some ⟨g, 0, none⟩))) (byteVals (List.replicate 32 0)) 26 hF rfl rfl rfl rfl (by kernel_rfl) ?_)
  intro g2 w3 a8 hF9 z6 z7 b4 hx5; clear hF
  refine wpList_nil ?_
  refine hK1 _ _ ?_
  clear hK1
  refine wp_seq_k (fun K10 hK10 => ?_)
  refine wp_seq_k (fun K11 hK11 => ?_)
  refine wp_region_lit ?_
  refine wpl_op (i := 0) rfl (o_val (v := (.slice A l.length c)) hF9 rfl rfl rfl rfl (rn_move (hF9.get rfl)) ?_)
  intro a12 hF13; clear hF9
  refine wpl_op (i := 1) rfl (o_val (v := (.int .i64 (l.length : Nat))) hF13 rfl rfl rfl rfl (rn_len_slice Tryd.underlying30 (hF13.get rfl)) ?_)
  intro a14 hF15; clear hF13
  refine wpList_nil ?_
  refine hK11 _ _ ?_
  clear hK11
  refine wp_block ?_
  refine wp_seq_k (fun K16 hK16 => ?_)
  refine wp_region_lit ?_
  refine wpl_op (i := 0) rfl (o_val (v := (.bool (decide (((l.length : Nat) : Int) = (0 : Int))))) hF15 rfl rfl rfl rfl (rn_eql (hF15.get rfl) rfl) ?_)
  intro a17 hF18; clear hF15
  refine wpl_op (i := 1) rfl (o_val (v := (.bool (decide (((l.length : Nat) : Int) = (0 : Int))))) hF18 rfl rfl rfl rfl (rn_assign (hF18.get rfl)) ?_)
  intro a19 hF20; clear hF18
  refine wpList_nil ?_
  refine hK16 _ _ ?_
  clear hK16
  by_cases hc21 : ((l.length : Nat) : Int) = (0 : Int)
  · skip
    refine wp_cond_true (c_true hF20 rfl (decide_eq_true hc21)) ?_
    refine wp_seq_k (fun K22 hK22 => ?_)
    refine wp_region_lit ?_
    refine wpl_op (i := 0) rfl (o_call hF20 rfl rfl rfl rfl (rn_call (args2 rfl rfl) rfl (by kernel_rfl)) (tagged_at ([101, 109, 112, 116, 121]) (v := (.slice none 0 0)) (n := 0) ([]) _ (show Fl (fun _ => False) w3 1 (.slice none 0 0) 0 (byteVals []) from Fl.nil _) (hG.ext ((Ext.refl w).trans hx5)) (by simp <;> omega) (by omega)) ?_)
    rintro _ w23 ⟨rfl, hx24⟩
    refine ⟨_, rfl, ?_⟩; intro a25 hF26; clear hF20; have z27 := hx24.size
    have b31 : Blk w23 g2 26 (byteVals (List.replicate 32 0)) := (b4.ext hx24)
    refine wpl_op (i := 1) rfl (o_store (cells := (byteVals (tagged ([101, 109, 112, 116, 121]) ([])))) hF26 rfl rfl rfl rfl (hF26.get rfl) (hF26.get rfl) b31 ((by kernel_rfl : (Tryd.prog.info? 26).map (·.size) = some 32).trans (congrArg some (byteVals_len (tagged_len _ _)).symm)) ((byteVals_len (show List.length (List.replicate 32 0) = _ from List.length_replicate)).trans (byteVals_len (tagged_len _ _)).symm) (byteVals_one _) ?_)
    intro w28 b29 hg30; have z32 := hg30.size
    refine wpList_nil ?_
    refine hK22 _ _ ?_
    clear hK22
    refine wp_ret ?_
    refine ret_block ?_
    refine ret_then ?_
    refine retC hF26 rfl rfl b29 Tryd.underlying26 rfl ((by kernel_rfl : (Tryd.prog.info? 26).map (·.size) = some 32).trans (congrArg some (byteVals_len (tagged_len _ _)).symm)) ?_
    exact ⟨by rw [tree_nil' (l := l) (by omega)], ((((Ext.refl w).trans hx5).trans hx24).grownN hg30 (by omega))⟩
  · skip
    refine wp_cond_false (c_false hF20 rfl (decide_eq_false hc21)) ?_
    refine wp_seq_k (fun K33 hK33 => ?_)
    refine wp_region_lit ?_
    refine wpl_op (i := 0) rfl (o_val (v := (.bool (decide (((l.length : Nat) : Int) = (1 : Int))))) hF20 rfl rfl rfl rfl (rn_eql (hF20.get rfl) rfl) ?_)
    intro a34 hF35; clear hF20
    refine wpl_op (i := 1) rfl (o_val (v := (.bool (decide (((l.length : Nat) : Int) = (1 : Int))))) hF35 rfl rfl rfl rfl (rn_assign (hF35.get rfl)) ?_)
    intro a36 hF37; clear hF35
    refine wpList_nil ?_
    refine hK33 _ _ ?_
    clear hK33
    by_cases hc38 : ((l.length : Nat) : Int) = (1 : Int)
    · skip
      refine wp_cond_true (c_true hF37 rfl (decide_eq_true hc38)) ?_
      refine wp_seq_k (fun K39 hK39 => ?_)
      refine wp_region_lit ?_
      refine wpl_op (i := 0) rfl (o_val (v := (.slice A l.length c)) hF37 rfl rfl rfl rfl (rn_move (hF37.get rfl)) ?_)
      intro a40 hF41; clear hF37
      have d45 := (hc.ext hx5)
      obtain ⟨b42, o43, hA44, -⟩ := Fl.at d45 (by omega)
      refine wpl_op (i := 1) rfl (o_val (v := (.pointer (some ⟨b42, o43 + 0 * 32, none⟩))) hF41 rfl rfl rfl rfl (rn_indexE Tryd.underlying30 (by kernel_rfl : (Tryd.prog.info? 26).map (·.size) = some 32) ((hF41.get rfl).trans (by rw [hA44])) rfl (by omega : (0 : Int) ≤ 0) (by omega : (0 : Int) < ((l.length : Nat) : Int)) (by omega)) ?_)
      intro a46 hF47; clear hF41
      refine wpl_op (i := 2) rfl (o_val (v := (.agg (byteVals (l.getD 0 [])).toArray)) hF47 rfl rfl rfl rfl (rn_loadN (cs := byteVals (l.getD 0 [])) (hF47.get rfl) Tryd.underlying26 rfl ((by kernel_rfl : (Tryd.prog.info? 26).map (·.size) = some 32).trans (congrArg some (byteVals_len (dig_len h32 0 (by omega))).symm)) (Fl.digAt d45 hA44 h32 (by omega))) ?_)
      intro a48 hF49; clear hF47
      refine wpl_op (i := 3) rfl (o_call hF49 rfl rfl rfl rfl (rn_call (args1 (hF49.get rfl)) rfl (by kernel_rfl)) (leaf_any (l.getD 0 []) _ (dig_len h32 0 (by omega)) (hG.ext ((Ext.refl w).trans hx5))) ?_)
      rintro _ w50 ⟨rfl, hx51⟩
      refine ⟨_, rfl, ?_⟩; intro a52 hF53; clear hF49; have z54 := hx51.size
      have b58 : Blk w50 g2 26 (byteVals (List.replicate 32 0)) := (b4.ext hx51)
      refine wpl_op (i := 4) rfl (o_store (cells := (byteVals (leafD (l.getD 0 [])))) hF53 rfl rfl rfl rfl (hF53.get rfl) (hF53.get rfl) b58 ((by kernel_rfl : (Tryd.prog.info? 26).map (·.size) = some 32).trans (congrArg some (byteVals_len (leafD_len _)).symm)) ((byteVals_len (show List.length (List.replicate 32 0) = _ from List.length_replicate)).trans (byteVals_len (leafD_len _)).symm) (byteVals_one _) ?_)
      intro w55 b56 hg57; have z59 := hg57.size
      refine wpList_nil ?_
      refine hK39 _ _ ?_
      clear hK39
      have hF60 := (((((hF53.nil.cons (hF53.get (t := 9) (v := (.bool (decide (((l.length : Nat) : Int) = (1 : Int))))) rfl)).cons (hF53.get (t := 6) (v := (.bool (decide (((l.length : Nat) : Int) = (0 : Int))))) rfl)).cons (hF53.get (t := 5) (v := (.int .i64 (l.length : Nat))) rfl)).cons (hF53.get (t := 2) (v := (.pointer (some ⟨g2, 0, none⟩))) rfl)).cons (hF53.get (t := 0) (v := (.slice A l.length c)) rfl))
      clear hF53
      refine wp_ret ?_
      refine ret_block ?_
      refine ret_then ?_
      refine retC hF60 rfl rfl b56 Tryd.underlying26 rfl ((by kernel_rfl : (Tryd.prog.info? 26).map (·.size) = some 32).trans (congrArg some (byteVals_len (leafD_len _)).symm)) ?_
      exact ⟨by rw [tree_one' (l := l) (by omega)], ((((Ext.refl w).trans hx5).trans hx51).grownN hg57 (by omega))⟩
    · skip
      refine wp_cond_false (c_false hF37 rfl (decide_eq_false hc38)) ?_
      refine wp_skip ?_
      refine hK10 _ _ ?_
      clear hK10
      refine wp_seq_k (fun K61 hK61 => ?_)
      refine wp_region_lit ?_
      refine wpl_op (i := 0) rfl (o_val (v := (.slice A l.length c)) hF37 rfl rfl rfl rfl (rn_move (hF37.get rfl)) ?_)
      intro a62 hF63; clear hF37
      refine wpl_op (i := 1) rfl (o_val (v := (.int .i64 (l.length : Nat))) hF63 rfl rfl rfl rfl (rn_len_slice Tryd.underlying30 (hF63.get rfl)) ?_)
      intro a64 hF65; clear hF63
      have z66 := half_lt (n := l.length) (by omega); have z67 := half_pos l.length
      refine wpl_op (i := 2) rfl (o_call hF65 rfl rfl rfl rfl (rn_call (args1 (hF65.get rfl)) rfl (by kernel_rfl)) (half_any l.length _ (by omega) (by omega)) ?_)
      rintro _ w68 ⟨rfl, hx69⟩
      refine ⟨_, rfl, ?_⟩; intro a70 hF71; clear hF65; have z72 := hx69.size
      refine wpl_op (i := 3) rfl (o_val (v := (.int .i64 (half l.length : Nat))) hF71 rfl rfl rfl rfl (rn_assign (hF71.get rfl)) ?_)
      intro a73 hF74; clear hF71
      refine wpList_nil ?_
      refine hK61 _ _ ?_
      clear hK61
      have hF75 := ((((((hF74.nil.cons (hF74.get (t := 3) (v := (.int .i64 (half l.length : Nat))) rfl)).cons (hF74.get (t := 9) (v := (.bool (decide (((l.length : Nat) : Int) = (1 : Int))))) rfl)).cons (hF74.get (t := 6) (v := (.bool (decide (((l.length : Nat) : Int) = (0 : Int))))) rfl)).cons (hF74.get (t := 5) (v := (.int .i64 (l.length : Nat))) rfl)).cons (hF74.get (t := 2) (v := (.pointer (some ⟨g2, 0, none⟩))) rfl)).cons (hF74.get (t := 0) (v := (.slice A l.length c)) rfl))
      clear hF74
      refine wp_seq_k (fun K76 hK76 => ?_)
      have hx78 : ∃ W, w68.drew = W ∧ Ext w68 W := ⟨_, rfl, (Ext.refl _).drew⟩
      obtain ⟨w77, e79, hx78⟩ := hx78
      have z80 := hx78.size
      refine any_start (fun W => Ext w77 W ∧ Blk W g2 26 (byteVals (List.replicate 32 0))) (fun i => i == 9) 10 #[false, false, false, false, false, false, false, false, false, false] rfl rfl rfl ?_
      rw [e79]; clear e79
      refine any_pure (i := 0) (v := (.slice A l.length c)) hF75 (by decide +kernel) (by decide +kernel) rfl rfl rfl rfl (fun _ _ _ _ h => h) rfl (fun W => (rn_move (hF75.get rfl))) ?_
      intro a81 hF82; clear hF75
      refine any_pure (i := 1) (v := (.int .i64 (half l.length : Nat))) hF82 (by decide +kernel) (by decide +kernel) rfl rfl rfl rfl (fun _ _ _ _ h => h) rfl (fun W => (rn_move (hF82.get rfl))) ?_
      intro a83 hF84; clear hF82
      refine any_pure (i := 2) (v := (.slice A (half l.length) c)) hF84 (by decide +kernel) (by decide +kernel) rfl rfl rfl rfl (fun _ _ _ _ h => h) rfl (fun W => (rn_sliceHi Tryd.underlying30 (by kernel_rfl : (Tryd.prog.info? 26).map (·.size) = some 32) (hF84.get rfl) (hF84.get rfl) (by omega : (0 : Int) ≤ (half l.length : Nat)) (by omega : ((half l.length : Nat) : Int) ≤ ((c : Nat) : Int)))) ?_
      intro a85 hF86; clear hF84
      refine any_pure (i := 4) (v := (.slice A l.length c)) hF86 (by decide +kernel) (by decide +kernel) rfl rfl rfl rfl (fun _ _ _ _ h => h) rfl (fun W => (rn_move (hF86.get rfl))) ?_
      intro a87 hF88; clear hF86
      refine any_pure (i := 5) (v := (.int .i64 (half l.length : Nat))) hF88 (by decide +kernel) (by decide +kernel) rfl rfl rfl rfl (fun _ _ _ _ h => h) rfl (fun W => (rn_move (hF88.get rfl))) ?_
      intro a89 hF90; clear hF88
      have d94 := (((hc.ext hx5).ext hx69).ext hx78)
      obtain ⟨b91, o92, hA93, -⟩ := Fl.at d94 (by omega)
      refine any_pure (i := 6) (v := (.slice (some ⟨b91, o92 + (half l.length) * 32, none⟩) (l.length - (half l.length)) (c - (half l.length)))) hF90 (by decide +kernel) (by decide +kernel) rfl rfl rfl rfl (fun _ _ _ _ h => h) rfl (fun W => (rn_sliceLo (l := (half l.length)) Tryd.underlying30 (by kernel_rfl : (Tryd.prog.info? 26).map (·.size) = some 32) ((hF90.get rfl).trans (by rw [hA93])) (hF90.get rfl) (by omega : (half l.length) ≤ l.length) (by omega : (half l.length) < c))) ?_
      intro a95 hF96; clear hF90
      refine any_one (i := 3) (by decide +kernel) rfl ?_
      have hf97 := (Fl.take_eq (j := (half l.length)) d94 (by omega) (digVals_take h32 _))
      have z98 := Fl.dlen hf97 (All32.take h32 _)
      refine o_call hF96 rfl rfl rfl rfl (rn_call (args1 (hF96.get rfl)) rfl (by kernel_rfl)) (ih (l.take (half l.length)) _ (n := (half l.length)) (.slice A (half l.length) c) (All32.take h32 _) hf97 (hG.ext ((((Ext.refl w).trans hx5).trans hx69).trans hx78)) (by omega)) ?_
      rintro _ w99 ⟨rfl, hx100⟩
      refine ⟨_, rfl, ?_⟩; intro a101 hF102; clear hF96; have z103 := hx100.size
      have b104 : Blk w99 g2 26 (byteVals (List.replicate 32 0)) := (((b4.ext hx69).ext hx78).ext hx100)
      refine ⟨fun _ _ => ⟨((Ext.refl w77).trans hx100), b104⟩, ?_⟩
      refine any_one (i := 7) (by decide +kernel) rfl ?_
      have d105 := ((((hc.ext hx5).ext hx69).ext hx78).ext hx100)
      have hf106 := (Fl.drop_eq (j := (half l.length)) d105 hA93 (by omega) (digVals_drop h32 _))
      have z107 := Fl.dlen hf106 (All32.drop h32 _)
      refine o_call hF102 rfl rfl rfl rfl (rn_call (args1 (hF102.get rfl)) rfl (by kernel_rfl)) (ih (l.drop (half l.length)) _ (n := l.length - (half l.length)) (.slice (some ⟨b91, o92 + (half l.length) * 32, none⟩) (l.length - (half l.length)) (c - (half l.length))) (All32.drop h32 _) hf106 (hG.ext (((((Ext.refl w).trans hx5).trans hx69).trans hx78).trans hx100)) (by omega)) ?_
      rintro _ w108 ⟨rfl, hx109⟩
      refine ⟨_, rfl, ?_⟩; intro a110 hF111; clear hF102; have z112 := hx109.size
      have b113 : Blk w108 g2 26 (byteVals (List.replicate 32 0)) := (b104.ext hx109)
      refine ⟨fun _ _ => ⟨(((Ext.refl w77).trans hx100).trans hx109), b113⟩, ?_⟩
      refine any_one (i := 8) (by decide +kernel) rfl ?_
      refine o_call hF111 rfl rfl rfl rfl (rn_call (args2 (hF111.get rfl) (hF111.get rfl)) rfl (by kernel_rfl)) (node_any (treeD (l.take (half l.length))) (treeD (l.drop (half l.length))) _ (treeD_len _) (treeD_len _) (hG.ext ((((((Ext.refl w).trans hx5).trans hx69).trans hx78).trans hx100).trans hx109))) ?_
      rintro _ w114 ⟨rfl, hx115⟩
      refine ⟨_, rfl, ?_⟩; intro a116 hF117; clear hF111; have z118 := hx115.size
      have b119 : Blk w114 g2 26 (byteVals (List.replicate 32 0)) := (b113.ext hx115)
      refine ⟨fun _ _ => ⟨((((Ext.refl w77).trans hx100).trans hx109).trans hx115), b119⟩, ?_⟩
      refine any_one (i := 9) (by decide +kernel) rfl ?_
      refine o_store (cells := (byteVals (nodeD (treeD (l.take (half l.length))) (treeD (l.drop (half l.length)))))) hF117 rfl rfl rfl rfl (hF117.get rfl) (hF117.get rfl) b119 ((by kernel_rfl : (Tryd.prog.info? 26).map (·.size) = some 32).trans (congrArg some (byteVals_len (nodeD_len _ _)).symm)) ((byteVals_len (show List.length (List.replicate 32 0) = _ from List.length_replicate)).trans (byteVals_len (nodeD_len _ _)).symm) (byteVals_one _) ?_
      intro w120 b121 hg122; have z123 := hg122.size
      refine ⟨fun h => absurd h (by decide), ?_⟩
      refine any_nil (by decide +kernel) ?_
      refine hK76 _ _ ?_
      clear hK76
      have hF124 := ((((((hF117.nil.cons (hF117.get (t := 3) (v := (.int .i64 (half l.length : Nat))) rfl)).cons (hF117.get (t := 9) (v := (.bool (decide (((l.length : Nat) : Int) = (1 : Int))))) rfl)).cons (hF117.get (t := 6) (v := (.bool (decide (((l.length : Nat) : Int) = (0 : Int))))) rfl)).cons (hF117.get (t := 5) (v := (.int .i64 (l.length : Nat))) rfl)).cons (hF117.get (t := 2) (v := (.pointer (some ⟨g2, 0, none⟩))) rfl)).cons (hF117.get (t := 0) (v := (.slice A l.length c)) rfl))
      clear hF117
      refine wp_ret ?_
      refine retC hF124 rfl rfl b121 Tryd.underlying26 rfl ((by kernel_rfl : (Tryd.prog.info? 26).map (·.size) = some 32).trans (congrArg some (byteVals_len (nodeD_len _ _)).symm)) ?_
      exact ⟨by rw [tree_two' (l := l) (by omega)], ((((((((Ext.refl w).trans hx5).trans hx69).trans hx78).trans hx100).trans hx109).trans hx115).grownN hg122 (by omega))⟩

theorem tree_at (l : List (List UInt8)) (w : World) {n : Nat} {v : Value} (h32 : All32 l) (hf : Fl S w 32 v n (digVals l)) (hG : Glob w) : Calls Tryd.prog 16 #[v] w (fun e w' => e = .returned (.agg (byteVals (treeD l)).toArray) ∧ Ext w w') := tree_ind _ l S w v h32 hf hG (Nat.lt_succ_self _)

set_option maxRecDepth 100000 in
set_option maxHeartbeats 1000000 in
theorem rev_any (g n c base : Nat) (l : List (List UInt8)) (w : World) (h32 : All32 l) (hr : w.ownsRow base 26 32 (.slice (some ⟨g, 0, none⟩) n c) n (digVals l)) :
    Calls Tryd.prog 33 #[.slice (some ⟨g, 0, none⟩) n c] w (fun e w' => e = .returned (.tuple #[]) ∧ w'.ownsRow base 26 32 (.slice (some ⟨g, 0, none⟩) n c) n (digVals l.reverse) ∧ w.grownBy w' (some g)) := by
  have hln := Fl.dlen (Fl.own (S := fun _ => True) hr (fun _ _ => trivial) (digVals_one _)) h32
  have hgg := own_lt hr
  refine calls_enter (l := [(.slice (some ⟨g, 0, none⟩) n c)]) Tryd.func33 rfl rfl rfl (fun aA hF => ?_)
  refine wp_seq_k (fun K1 hK1 => ?_)
  refine wp_region_lit ?_
  refine wpl_op (i := 0) rfl (o_val (v := (.slice (some ⟨g, 0, none⟩) n c)) hF rfl rfl rfl rfl (rn_move (hF.get rfl)) ?_)
  intro a2 hF3; clear hF
  refine wpl_op (i := 1) rfl (o_val (v := (.int .i64 (n : Nat))) hF3 rfl rfl rfl rfl (rn_len_slice Tryd.underlying30 (hF3.get rfl)) ?_)
  intro a4 hF5; clear hF3
  refine wpl_op (i := 2) rfl (o_val (v := (.int .i64 ((n : Nat) - 1))) hF5 rfl rfl rfl rfl (rn_sub (hF5.get rfl) rfl (by omega) (by omega)) ?_)
  intro a6 hF7; clear hF5
  refine wpl_op (i := 3) rfl (o_val (v := (.int .i64 0)) hF7 rfl rfl rfl rfl (rn_assign rfl) ?_)
  intro a8 hF9; clear hF7
  refine wpl_op (i := 4) rfl (o_val (v := (.int .i64 ((n : Nat) - 1))) hF9 rfl rfl rfl rfl (rn_assign (hF9.get rfl)) ?_)
  intro a10 hF11; clear hF9
  refine wpList_nil ?_
  refine hK1 _ _ ?_
  clear hK1
  refine wp_block ?_
  refine wp_loop (fun a' W => ∃ (i1 : Nat) (j1 : Int) (lk : List (List UInt8)), Sl 28 [(0, (.slice (some ⟨g, 0, none⟩) n c)), (2, (.int .i64 (i1 : Nat))), (3, (.int .i64 j1))] a' ∧ (i1 : Int) + j1 + 1 = n ∧ RevInv l lk i1 ∧ i1 ≤ n + 1 ∧ w.grownBy W (some g) ∧ W.ownsRow base 26 32 (.slice (some ⟨g, 0, none⟩) n c) n (digVals lk) ∧ base ≤ W.heap.size ∧ w.heap.size ≤ W.heap.size) (fun a' _ => n + 2 - (intOf (a'.eval (.tmp 2))).toNat) ⟨0, ((n : Int) - 1), l, (((hF11.nil.cons (q_get hF11 (t := 3) rfl (by first | rfl | (congr 1; omega) | (congr 1; done)))).cons (q_get hF11 (t := 2) rfl (by first | rfl | (congr 1; omega) | (congr 1; done)))).cons (q_get hF11 (t := 0) rfl rfl)), (by omega), (RevInv.start l), (by omega), (grow_refl w g), hr, (by omega), (Nat.le_refl _)⟩ ?_
  clear hF11
  rintro a12 w13 ⟨i1, j1, lk, hF14, hp16, hp17, hp18, hx15, r19, hf20, hf21⟩
  have hL22 := hF14
  have z23 := hx15.size
  have z24 := own_lt r19
  have hk32 := hp17.all32 h32
  have hlk := hp17.1
  refine wp_seq_k (fun K25 hK25 => ?_)
  refine wp_seq_k (fun K26 hK26 => ?_)
  refine wp_region_lit ?_
  refine wpl_op (i := 0) rfl (o_val (v := (.int .i64 (i1 : Nat))) hF14 rfl rfl rfl rfl (rn_move (hF14.get rfl)) ?_)
  intro a27 hF28; clear hF14
  refine wpl_op (i := 1) rfl (o_val (v := (.int .i64 j1)) hF28 rfl rfl rfl rfl (rn_move (hF28.get rfl)) ?_)
  intro a29 hF30; clear hF28
  refine wpl_op (i := 2) rfl (o_val (v := (.bool (decide (((i1 : Nat) : Int) < (j1 : Int))))) hF30 rfl rfl rfl rfl (rn_lss (hF30.get rfl) (hF30.get rfl)) ?_)
  intro a31 hF32; clear hF30
  refine wpList_nil ?_
  refine hK26 _ _ ?_
  clear hK26
  by_cases hc33 : ((i1 : Nat) : Int) < (j1 : Int)
  · skip
    refine wp_cond_true (c_true hF32 rfl (decide_eq_true hc33)) ?_
    refine wp_skip ?_
    refine hK25 _ _ ?_
    clear hK25
    refine wp_seq_k (fun K34 hK34 => ?_)
    refine wp_block ?_
    have hx36 : ∃ W, w13.drew = W ∧ Ext w13 W := ⟨_, rfl, (Ext.refl _).drew⟩
    obtain ⟨w35, e37, hx36⟩ := hx36
    have z38 := hx36.size
    refine any_start (fun W => Ext w35 W) (fun i => i == 13 || i == 15) 16 #[false, false, false, false, false, false, false, false, false, false, false, false, false, false, false, false] rfl rfl rfl ?_
    rw [e37]; clear e37
    refine any_pure (i := 0) (v := (.slice (some ⟨g, 0, none⟩) n c)) hF32 (by decide +kernel) (by decide +kernel) rfl rfl rfl rfl (fun _ _ _ _ h => h) rfl (fun W => (rn_move (hF32.get rfl))) ?_
    intro a39 hF40; clear hF32
    refine any_pure (i := 1) (v := (.int .i64 (i1 : Nat))) hF40 (by decide +kernel) (by decide +kernel) rfl rfl rfl rfl (fun _ _ _ _ h => h) rfl (fun W => (rn_move (hF40.get rfl))) ?_
    intro a41 hF42; clear hF40
    refine any_pure (i := 2) (v := (.slice (some ⟨g, 0, none⟩) n c)) hF42 (by decide +kernel) (by decide +kernel) rfl rfl rfl rfl (fun _ _ _ _ h => h) rfl (fun W => (rn_move (hF42.get rfl))) ?_
    intro a43 hF44; clear hF42
    refine any_pure (i := 3) (v := (.int .i64 j1)) hF44 (by decide +kernel) (by decide +kernel) rfl rfl rfl rfl (fun _ _ _ _ h => h) rfl (fun W => (rn_move (hF44.get rfl))) ?_
    intro a45 hF46; clear hF44
    refine any_pure (i := 4) (v := (.slice (some ⟨g, 0, none⟩) n c)) hF46 (by decide +kernel) (by decide +kernel) rfl rfl rfl rfl (fun _ _ _ _ h => h) rfl (fun W => (rn_move (hF46.get rfl))) ?_
    intro a47 hF48; clear hF46
    refine any_pure (i := 5) (v := (.int .i64 j1)) hF48 (by decide +kernel) (by decide +kernel) rfl rfl rfl rfl (fun _ _ _ _ h => h) rfl (fun W => (rn_move (hF48.get rfl))) ?_
    intro a49 hF50; clear hF48
    refine any_pure (i := 6) (v := (.pointer (some ⟨g, 0 + (j1 : Int).toNat * 32, none⟩))) hF50 (by decide +kernel) (by decide +kernel) rfl rfl rfl rfl (fun _ _ _ _ h => h) rfl (fun W => (rn_indexE Tryd.underlying30 (by kernel_rfl : (Tryd.prog.info? 26).map (·.size) = some 32) (hF50.get rfl) (hF50.get rfl) (by omega : (0 : Int) ≤ j1) (by omega : (j1 : Int) < ((n : Nat) : Int)) (by omega))) ?_
    intro a51 hF52; clear hF50
    have hS53 : Ext w35 w35 := (Ext.refl w35)
    have r54 := (own_ext r19 hx36)
    have hf55 := (Fl.own (S := fun b => base ≤ b) r54 (fun b hb => hb) (digVals_one _))
    refine any_val (i := 7) (v := (.agg (byteVals (lk.getD ((j1 : Int).toNat) [])).toArray)) hF52 (by decide +kernel) (by decide +kernel) rfl rfl rfl rfl (fun _ _ _ _ h => h) rfl hS53 (fun W hW => (rn_loadN (cs := byteVals (lk.getD ((j1 : Int).toNat) [])) (hF52.get rfl) Tryd.underlying26 rfl ((by kernel_rfl : (Tryd.prog.info? 26).map (·.size) = some 32).trans (congrArg some (byteVals_len (dig_len hk32 ((j1 : Int).toNat) (by have := hlk; omega))).symm)) (Fl.digAt (hf55.ext hW) rfl hk32 (by have := hlk; omega)))) ?_
    intro a56 hF57; clear hF52
    refine any_pure (i := 8) (v := (.slice (some ⟨g, 0, none⟩) n c)) hF57 (by decide +kernel) (by decide +kernel) rfl rfl rfl rfl (fun _ _ _ _ h => h) rfl (fun W => (rn_move (hF57.get rfl))) ?_
    intro a58 hF59; clear hF57
    refine any_pure (i := 9) (v := (.int .i64 (i1 : Nat))) hF59 (by decide +kernel) (by decide +kernel) rfl rfl rfl rfl (fun _ _ _ _ h => h) rfl (fun W => (rn_move (hF59.get rfl))) ?_
    intro a60 hF61; clear hF59
    refine any_pure (i := 10) (v := (.pointer (some ⟨g, 0 + i1 * 32, none⟩))) hF61 (by decide +kernel) (by decide +kernel) rfl rfl rfl rfl (fun _ _ _ _ h => h) rfl (fun W => (rn_indexE Tryd.underlying30 (by kernel_rfl : (Tryd.prog.info? 26).map (·.size) = some 32) (hF61.get rfl) (hF61.get rfl) (by omega : (0 : Int) ≤ (i1 : Nat)) (by omega : ((i1 : Nat) : Int) < ((n : Nat) : Int)) (by omega))) ?_
    intro a62 hF63; clear hF61
    have hf64 := (Fl.own (S := fun b => base ≤ b) r54 (fun b hb => hb) (digVals_one _))
    refine any_val (i := 11) (v := (.agg (byteVals (lk.getD i1 [])).toArray)) hF63 (by decide +kernel) (by decide +kernel) rfl rfl rfl rfl (fun _ _ _ _ h => h) rfl hS53 (fun W hW => (rn_loadN (cs := byteVals (lk.getD i1 [])) (hF63.get rfl) Tryd.underlying26 rfl ((by kernel_rfl : (Tryd.prog.info? 26).map (·.size) = some 32).trans (congrArg some (byteVals_len (dig_len hk32 i1 (by have := hlk; omega))).symm)) (Fl.digAt (hf64.ext hW) rfl hk32 (by have := hlk; omega)))) ?_
    intro a65 hF66; clear hF63
    refine any_pure (i := 12) (v := (.pointer (some ⟨g, 0 + i1 * 32, none⟩))) hF66 (by decide +kernel) (by decide +kernel) rfl rfl rfl rfl (fun _ _ _ _ h => h) rfl (fun W => (rn_indexE Tryd.underlying30 (by kernel_rfl : (Tryd.prog.info? 26).map (·.size) = some 32) (hF66.get rfl) (hF66.get rfl) (by omega : (0 : Int) ≤ (i1 : Nat)) (by omega : ((i1 : Nat) : Int) < ((n : Nat) : Int)) (by omega))) ?_
    intro a67 hF68; clear hF66
    refine any_one (i := 13) (by decide +kernel) rfl ?_
    have hf72 := (Fl.own (S := fun b => base ≤ b) r54 (fun b hb => hb) (digVals_one _))
    refine o_storeRowK (j := i1) (k := 32) (cells := byteVals (lk.getD ((j1 : Int).toNat) [])) (zs := digVals (lk.set i1 (lk.getD ((j1 : Int).toNat) []))) hF68 rfl rfl rfl rfl (hF68.get rfl) (hF68.get rfl) r54 ((by kernel_rfl : (Tryd.prog.info? 26).map (·.size) = some 32).trans (congrArg some (byteVals_len (dig_len hk32 ((j1 : Int).toNat) (by have := hlk; omega))).symm)) (by omega) (by omega) (byteVals_len (dig_len hk32 ((j1 : Int).toNat) (by have := hlk; omega))) (byteVals_one _) (digVals_set hk32 (by have := Fl.dlen hf72 hk32; omega) (dig_len hk32 ((j1 : Int).toNat) (by have := hlk; omega))) ?_
    intro w69 r70 hg71; have z73 := hg71.size
    refine ⟨fun h => absurd h (by decide), ?_⟩
    refine any_pure (i := 14) (v := (.pointer (some ⟨g, 0 + (j1 : Int).toNat * 32, none⟩))) hF68 (by decide +kernel) (by decide +kernel) rfl rfl rfl rfl (fun _ _ _ _ h => h) rfl (fun W => (rn_indexE Tryd.underlying30 (by kernel_rfl : (Tryd.prog.info? 26).map (·.size) = some 32) (hF68.get rfl) (hF68.get rfl) (by omega : (0 : Int) ≤ j1) (by omega : (j1 : Int) < ((n : Nat) : Int)) (by omega))) ?_
    intro a74 hF75; clear hF68
    refine any_one (i := 15) (by decide +kernel) rfl ?_
    have hf79 := (Fl.own (S := fun b => base ≤ b) r70 (fun b hb => hb) (digVals_one _))
    refine o_storeRowK (j := (j1 : Int).toNat) (k := 32) (cells := byteVals (lk.getD i1 [])) (zs := digVals ((lk.set i1 (lk.getD ((j1 : Int).toNat) [])).set ((j1 : Int).toNat) (lk.getD i1 []))) hF75 rfl rfl rfl rfl (hF75.get rfl) (hF75.get rfl) r70 ((by kernel_rfl : (Tryd.prog.info? 26).map (·.size) = some 32).trans (congrArg some (byteVals_len (dig_len hk32 i1 (by have := hlk; omega))).symm)) (by omega) (by omega) (byteVals_len (dig_len hk32 i1 (by have := hlk; omega))) (byteVals_one _) (digVals_set (All32.set hk32 (dig_len hk32 ((j1 : Int).toNat) (by have := hlk; omega))) (by have := Fl.dlen hf79 (All32.set hk32 (dig_len hk32 ((j1 : Int).toNat) (by have := hlk; omega))); omega) (dig_len hk32 i1 (by have := hlk; omega))) ?_
    intro w76 r77 hg78; have z80 := hg78.size
    refine ⟨fun h => absurd h (by decide), ?_⟩
    refine any_nil (by decide +kernel) ?_
    refine hK34 _ _ ?_
    clear hK34
    have hF81 := ((((hF75.nil.cons (hF75.get (t := 9) (v := (.bool (decide (((i1 : Nat) : Int) < (j1 : Int))))) rfl)).cons (hF75.get (t := 3) (v := (.int .i64 j1)) rfl)).cons (hF75.get (t := 2) (v := (.int .i64 (i1 : Nat))) rfl)).cons (hF75.get (t := 0) (v := (.slice (some ⟨g, 0, none⟩) n c)) rfl))
    clear hF75
    refine wp_region_lit ?_
    refine wpl_op (i := 0) rfl (o_val (v := (.int .i64 (i1 : Nat))) hF81 rfl rfl rfl rfl (rn_move (hF81.get rfl)) ?_)
    intro a82 hF83; clear hF81
    refine wpl_op (i := 1) rfl (o_val (v := (.int .i64 (i1 + 1 : Nat))) hF83 rfl rfl rfl rfl (rn_addN (a := i1) (b := 1) (hF83.get rfl) rfl (by omega)) ?_)
    intro a84 hF85; clear hF83
    refine wpl_op (i := 2) rfl (o_val (v := (.int .i64 j1)) hF85 rfl rfl rfl rfl (rn_move (hF85.get rfl)) ?_)
    intro a86 hF87; clear hF85
    refine wpl_op (i := 3) rfl (o_val (v := (.int .i64 (j1 - 1))) hF87 rfl rfl rfl rfl (rn_sub (hF87.get rfl) rfl (by omega) (by omega)) ?_)
    intro a88 hF89; clear hF87
    refine wpl_op (i := 4) rfl (o_val (v := (.int .i64 (i1 + 1 : Nat))) hF89 rfl rfl rfl rfl (rn_assign (hF89.get rfl)) ?_)
    intro a90 hF91; clear hF89
    refine wpl_op (i := 5) rfl (o_val (v := (.int .i64 (j1 - 1))) hF91 rfl rfl rfl rfl (rn_assign (hF91.get rfl)) ?_)
    intro a92 hF93; clear hF91
    refine wpList_nil ?_
    refine ⟨⟨(i1 + 1), (j1 - 1), (lk.set i1 (lk.getD ((j1 : Int).toNat) [])).set ((j1 : Int).toNat) (lk.getD i1 []), (((hF93.nil.cons (q_get hF93 (t := 3) rfl (by first | rfl | (congr 1; omega) | (congr 1; done)))).cons (q_get hF93 (t := 2) rfl (by first | rfl | (congr 1; omega) | (congr 1; done)))).cons (q_get hF93 (t := 0) rfl rfl)), (by omega), (RevInv.step hp17 (by omega) (by omega)), (by omega), (grow_set (grow_set (grow_ext (grow_set (grow_refl w g) hx15) hx36) hg71) hg78), r77, (by omega), (by omega)⟩, ?_⟩
    rw [hF93.get (t := 2) rfl, hL22.get (t := 2) rfl]; simp [intOf] <;> omega
  · skip
    refine wp_cond_false (c_false hF32 rfl (decide_eq_false hc33)) ?_
    refine wp_exit ?_
    refine exit_then ?_
    refine exit_then ?_
    refine exit_here ?_
    refine ret0 hF32 rfl ?_
    have hdone := RevInv.done hp17 (by omega)
    exact ⟨rfl, hdone ▸ r19, (grow_set (grow_refl w g) hx15)⟩

set_option maxRecDepth 100000 in
set_option maxHeartbeats 1000000 in
theorem rev_nil (w : World) :
    Calls Tryd.prog 33 #[.slice none 0 0] w (fun e w' => e = .returned (.tuple #[]) ∧ Ext w w') := by
  refine calls_enter (l := [(.slice none 0 0)]) Tryd.func33 rfl rfl rfl (fun aA hF => ?_)
  refine wp_seq_k (fun K1 hK1 => ?_)
  refine wp_region_lit ?_
  refine wpl_op (i := 0) rfl (o_val (v := (.slice none 0 0)) hF rfl rfl rfl rfl (rn_move (hF.get rfl)) ?_)
  intro a2 hF3; clear hF
  refine wpl_op (i := 1) rfl (o_val (v := (.int .i64 0)) hF3 rfl rfl rfl rfl (rn_len_slice Tryd.underlying30 (hF3.get rfl)) ?_)
  intro a4 hF5; clear hF3
  refine wpl_op (i := 2) rfl (o_val (v := (.int .i64 (-1))) hF5 rfl rfl rfl rfl (rn_sub (hF5.get rfl) rfl (by omega) (by omega)) ?_)
  intro a6 hF7; clear hF5
  refine wpl_op (i := 3) rfl (o_val (v := (.int .i64 0)) hF7 rfl rfl rfl rfl (rn_assign rfl) ?_)
  intro a8 hF9; clear hF7
  refine wpl_op (i := 4) rfl (o_val (v := (.int .i64 (-1))) hF9 rfl rfl rfl rfl (rn_assign (hF9.get rfl)) ?_)
  intro a10 hF11; clear hF9
  refine wpList_nil ?_
  refine hK1 _ _ ?_
  clear hK1
  refine wp_block ?_
  refine wp_loop (fun a' W => Sl 28 [(0, (.slice none 0 0)), (2, (.int .i64 0)), (3, (.int .i64 (-1)))] a' ∧ Ext w W ∧ w.heap.size ≤ W.heap.size) (fun a' _ => 0 - (intOf (a'.eval (.tmp 2))).toNat) ⟨(((hF11.nil.cons (q_get hF11 (t := 3) rfl (by first | rfl | (congr 1; omega) | (congr 1; done)))).cons (q_get hF11 (t := 2) rfl (by first | rfl | (congr 1; omega) | (congr 1; done)))).cons (q_get hF11 (t := 0) rfl rfl)), (Ext.refl w), (Nat.le_refl _)⟩ ?_
  clear hF11
  rintro a12 w13 ⟨hF14, hx15, hf16⟩
  have hL17 := hF14
  have z18 := hx15.size
  refine wp_seq_k (fun K19 hK19 => ?_)
  refine wp_seq_k (fun K20 hK20 => ?_)
  refine wp_region_lit ?_
  refine wpl_op (i := 0) rfl (o_val (v := (.int .i64 0)) hF14 rfl rfl rfl rfl (rn_move (hF14.get rfl)) ?_)
  intro a21 hF22; clear hF14
  refine wpl_op (i := 1) rfl (o_val (v := (.int .i64 (-1))) hF22 rfl rfl rfl rfl (rn_move (hF22.get rfl)) ?_)
  intro a23 hF24; clear hF22
  refine wpl_op (i := 2) rfl (o_val (v := (.bool false)) hF24 rfl rfl rfl rfl (rn_lss' (hF24.get rfl) (hF24.get rfl) (by decide)) ?_)
  intro a25 hF26; clear hF24
  refine wpList_nil ?_
  refine hK20 _ _ ?_
  clear hK20
  refine wp_cond_false (c_false hF26 rfl rfl) ?_
  refine wp_exit ?_
  refine exit_then ?_
  refine exit_then ?_
  refine exit_here ?_
  refine ret0 hF26 rfl ?_
  exact ⟨rfl, ((Ext.refl w).trans hx15)⟩

end Go.Proofs.YtgodliookpgliaaDoor
