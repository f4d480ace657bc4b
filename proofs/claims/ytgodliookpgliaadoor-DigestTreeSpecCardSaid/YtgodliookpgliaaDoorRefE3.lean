/- Contracts of the reference's Tree, Path. -/
import Derived.Test.YtgodliookpgliaaDoorProg
import Derived.Test.YtgodliookpgliaaDoorRefD3
import Derived.Test.YtgodliookpgliaaDoorDigK
import Derived.KernelRfl
namespace Go.Proofs.YtgodliookpgliaaDoor
open Go.RowKit

variable {S S' : Nat → Prop}

set_option maxRecDepth 100000 in
set_option maxHeartbeats 1000000 in
theorem rtree_ind : ∀ (N : Nat) (l : List (List UInt8)) (S : Nat → Prop) (w : World) {n : Nat} (v : Value) (_ : All32 l) (_ : Fl S w 32 v n (digVals l)) (_ : l.length ≤ 4398046511104)  (_ : l.length < N),
    Calls Tryd.prog 17 #[v] w (fun e w' => e = .returned (.agg (byteVals (treeD l)).toArray) ∧ Ext w w') := by
  intro N
  induction N with
  | zero => intro l; intros; omega
  | succ N ih0 =>
  intro l S w n v h32 hf0 hbig  hN
  have ih : ∀ (l' : List (List UInt8)) (w' : World) {n : Nat} {S : Nat → Prop} (v' : Value) (_ : All32 l') (_ : Fl S w' 32 v' n (digVals l')) (_ : l'.length ≤ 4398046511104)  (_ : l'.length < l.length), Calls Tryd.prog 17 #[v'] w' (fun e w'' => e = .returned (.agg (byteVals (treeD l')).toArray) ∧ Ext w' w'') := by
    intros; apply ih0 <;> first | assumption | omega
  clear ih0
  have hm := Fl.dlen hf0 h32
  subst hm
  obtain ⟨A, c, rfl, hcc0⟩ := hf0.form
  have hf := hf0
  have hc : Fl (Clip S w) w 32 (.slice A l.length c) l.length (digVals l) := hf.clip
  have hcc := (Fl.cel hc).2.1
  refine calls_enter (l := [(.slice A l.length c)]) Tryd.func17 rfl rfl rfl (fun aA hF => ?_)
  refine wp_seq_k (fun K1 hK1 => ?_)
  refine wp_region_lit ?_
  refine wpl_op (i := 0) rfl (o_new (fun g => (.pointer (some ⟨g, 0, none⟩))) (byteVals (List.replicate 32 0)) 26 hF rfl rfl rfl rfl (by kernel_rfl) ?_)
  intro g2 w3 a8 hF9 z6 z7 b4 hx5; clear hF
  refine wpList_nil ?_
  refine hK1 _ _ ?_
  clear hK1
  refine wp_seq_k (fun K10 hK10 => ?_)
  refine wp_seq_k (fun K11 hK11 => ?_)
  refine wp_region_lit ?_
  refine wpl_op (i := 0) rfl (o_val (v := (.slice A l.length c)) hF9 rfl rfl rfl rfl (rn_move (hF9.get rfl)) ?_)
  intro a12 hF13; clear hF9
  refine wpl_op (i := 1) rfl (o_val (v := (.int .i64 (l.length : Nat))) hF13 rfl rfl rfl rfl (rn_len_slice Tryd.underlying30 (hF13.get rfl)) ?_)
  intro a14 hF15; clear hF13
  refine wpl_op (i := 2) rfl (o_val (v := (.bool (decide (((l.length : Nat) : Int) = (0 : Int))))) hF15 rfl rfl rfl rfl (rn_eql (hF15.get rfl) rfl) ?_)
  intro a16 hF17; clear hF15
  refine wpList_nil ?_
  refine hK11 _ _ ?_
  clear hK11
  by_cases hc18 : ((l.length : Nat) : Int) = (0 : Int)
  · skip
    refine wp_cond_true (c_true hF17 rfl (decide_eq_true hc18)) ?_
    refine wp_seq_k (fun K19 hK19 => ?_)
    refine wp_region_lit ?_
    refine wpl_op (i := 0) rfl (o_call hF17 rfl rfl rfl rfl (rn_call (args2 rfl rfl) rfl (by kernel_rfl)) (rtagged_at ([101, 109, 112, 116, 121]) (v := (.slice none 0 0)) (n := 0) ([]) _ (show Fl (fun _ => False) w3 1 (.slice none 0 0) 0 (byteVals []) from Fl.nil _) (by decide) (by omega)) ?_)
    rintro _ w20 ⟨rfl, hx21⟩
    refine ⟨_, rfl, ?_⟩; intro a22 hF23; clear hF17; have z24 := hx21.size
    have b28 : Blk w20 g2 26 (byteVals (List.replicate 32 0)) := (b4.ext hx21)
    refine wpl_op (i := 1) rfl (o_store (cells := (byteVals (tagged ([101, 109, 112, 116, 121]) ([])))) hF23 rfl rfl rfl rfl (hF23.get rfl) (hF23.get rfl) b28 ((by kernel_rfl : (Tryd.prog.info? 26).map (·.size) = some 32).trans (congrArg some (byteVals_len (tagged_len _ _)).symm)) ((byteVals_len (show List.length (List.replicate 32 0) = _ from List.length_replicate)).trans (byteVals_len (tagged_len _ _)).symm) (byteVals_one _) ?_)
    intro w25 b26 hg27; have z29 := hg27.size
    refine wpList_nil ?_
    refine hK19 _ _ ?_
    clear hK19
    refine wp_ret ?_
    refine ret_then ?_
    refine retC hF23 rfl rfl b26 Tryd.underlying26 rfl ((by kernel_rfl : (Tryd.prog.info? 26).map (·.size) = some 32).trans (congrArg some (byteVals_len (tagged_len _ _)).symm)) ?_
    exact ⟨by rw [tree_nil' (l := l) (by omega)], ((((Ext.refl w).trans hx5).trans hx21).grownN hg27 (by omega))⟩
  · skip
    refine wp_cond_false (c_false hF17 rfl (decide_eq_false hc18)) ?_
    refine wp_skip ?_
    refine hK10 _ _ ?_
    clear hK10
    refine wp_seq_k (fun K30 hK30 => ?_)
    refine wp_seq_k (fun K31 hK31 => ?_)
    refine wp_region_lit ?_
    refine wpl_op (i := 0) rfl (o_val (v := (.slice A l.length c)) hF17 rfl rfl rfl rfl (rn_move (hF17.get rfl)) ?_)
    intro a32 hF33; clear hF17
    refine wpl_op (i := 1) rfl (o_val (v := (.int .i64 (l.length : Nat))) hF33 rfl rfl rfl rfl (rn_len_slice Tryd.underlying30 (hF33.get rfl)) ?_)
    intro a34 hF35; clear hF33
    refine wpl_op (i := 2) rfl (o_val (v := (.bool (decide (((l.length : Nat) : Int) = (1 : Int))))) hF35 rfl rfl rfl rfl (rn_eql (hF35.get rfl) rfl) ?_)
    intro a36 hF37; clear hF35
    refine wpList_nil ?_
    refine hK31 _ _ ?_
    clear hK31
    have hF38 := ((((hF37.nil.cons (hF37.get (t := 10) (v := (.bool (decide (((l.length : Nat) : Int) = (1 : Int))))) rfl)).cons (hF37.get (t := 6) (v := (.bool (decide (((l.length : Nat) : Int) = (0 : Int))))) rfl)).cons (hF37.get (t := 2) (v := (.pointer (some ⟨g2, 0, none⟩))) rfl)).cons (hF37.get (t := 0) (v := (.slice A l.length c)) rfl))
    clear hF37
    by_cases hc39 : ((l.length : Nat) : Int) = (1 : Int)
    · skip
      refine wp_cond_true (c_true hF38 rfl (decide_eq_true hc39)) ?_
      refine wp_seq_k (fun K40 hK40 => ?_)
      refine wp_region_lit ?_
      refine wpl_op (i := 0) rfl (o_val (v := (.slice A l.length c)) hF38 rfl rfl rfl rfl (rn_move (hF38.get rfl)) ?_)
      intro a41 hF42; clear hF38
      have d46 := (hc.ext hx5)
      obtain ⟨b43, o44, hA45, -⟩ := Fl.at d46 (by omega)
      refine wpl_op (i := 1) rfl (o_val (v := (.pointer (some ⟨b43, o44 + 0 * 32, none⟩))) hF42 rfl rfl rfl rfl (rn_indexE Tryd.underlying30 (by kernel_rfl : (Tryd.prog.info? 26).map (·.size) = some 32) ((hF42.get rfl).trans (by rw [hA45])) rfl (by omega : (0 : Int) ≤ 0) (by omega : (0 : Int) < ((l.length : Nat) : Int)) (by omega)) ?_)
      intro a47 hF48; clear hF42
      refine wpl_op (i := 2) rfl (o_val (v := (.slice (some ⟨b43, o44 + 0 * 32, none⟩) 32 32)) hF48 rfl rfl rfl rfl (rn_arrAll Tryd.underlying26 (by kernel_rfl : (Tryd.prog.info? 5).map (·.size) = some 1) (hF48.get rfl)) ?_)
      intro a49 hF50; clear hF48
      refine wpl_op (i := 3) rfl (o_call hF50 rfl rfl rfl rfl (rn_call (args2 rfl (hF50.get rfl)) rfl (by kernel_rfl)) (rtagged_at ([108, 101, 97, 102]) (v := (.slice (some ⟨b43, o44 + 0 * 32, none⟩) 32 32)) (n := 32) (l.getD 0 []) _ (Fl.digPart (i := 0) d46 hA45 h32 (by omega) (by omega)) (by decide) (by omega)) ?_)
      rintro _ w51 ⟨rfl, hx52⟩
      refine ⟨_, rfl, ?_⟩; intro a53 hF54; clear hF50; have z55 := hx52.size
      have b59 : Blk w51 g2 26 (byteVals (List.replicate 32 0)) := (b4.ext hx52)
      refine wpl_op (i := 4) rfl (o_store (cells := (byteVals (tagged ([108, 101, 97, 102]) (l.getD 0 [])))) hF54 rfl rfl rfl rfl (hF54.get rfl) (hF54.get rfl) b59 ((by kernel_rfl : (Tryd.prog.info? 26).map (·.size) = some 32).trans (congrArg some (byteVals_len (tagged_len _ _)).symm)) ((byteVals_len (show List.length (List.replicate 32 0) = _ from List.length_replicate)).trans (byteVals_len (tagged_len _ _)).symm) (byteVals_one _) ?_)
      intro w56 b57 hg58; have z60 := hg58.size
      refine wpList_nil ?_
      refine hK40 _ _ ?_
      clear hK40
      have hF61 := ((((hF54.nil.cons (hF54.get (t := 10) (v := (.bool (decide (((l.length : Nat) : Int) = (1 : Int))))) rfl)).cons (hF54.get (t := 6) (v := (.bool (decide (((l.length : Nat) : Int) = (0 : Int))))) rfl)).cons (hF54.get (t := 2) (v := (.pointer (some ⟨g2, 0, none⟩))) rfl)).cons (hF54.get (t := 0) (v := (.slice A l.length c)) rfl))
      clear hF54
      refine wp_ret ?_
      refine ret_then ?_
      refine retC hF61 rfl rfl b57 Tryd.underlying26 rfl ((by kernel_rfl : (Tryd.prog.info? 26).map (·.size) = some 32).trans (congrArg some (byteVals_len (tagged_len _ _)).symm)) ?_
      exact ⟨by rw [tree_one' (l := l) (by omega), leafD], ((((Ext.refl w).trans hx5).trans hx52).grownN hg58 (by omega))⟩
    · skip
      refine wp_cond_false (c_false hF38 rfl (decide_eq_false hc39)) ?_
      refine wp_skip ?_
      refine hK30 _ _ ?_
      clear hK30
      refine wp_seq_k (fun K62 hK62 => ?_)
      refine wp_region_lit ?_
      refine wpl_op (i := 0) rfl (o_val (v := (.slice A l.length c)) hF38 rfl rfl rfl rfl (rn_move (hF38.get rfl)) ?_)
      intro a63 hF64; clear hF38
      refine wpl_op (i := 1) rfl (o_val (v := (.int .i64 (l.length : Nat))) hF64 rfl rfl rfl rfl (rn_len_slice Tryd.underlying30 (hF64.get rfl)) ?_)
      intro a65 hF66; clear hF64
      have z67 := half_lt (n := l.length) (by omega); have z68 := half_pos l.length
      refine wpl_op (i := 2) rfl (o_call hF66 rfl rfl rfl rfl (rn_call (args1 (hF66.get rfl)) rfl (by kernel_rfl)) (rhalf_any l.length _ (by omega) (by omega)) ?_)
      rintro _ w69 ⟨rfl, hx70⟩
      refine ⟨_, rfl, ?_⟩; intro a71 hF72; clear hF66; have z73 := hx70.size
      refine wpl_op (i := 3) rfl (o_val (v := (.int .i64 (half l.length : Nat))) hF72 rfl rfl rfl rfl (rn_assign (hF72.get rfl)) ?_)
      intro a74 hF75; clear hF72
      refine wpList_nil ?_
      refine hK62 _ _ ?_
      clear hK62
      refine wp_seq_k (fun K76 hK76 => ?_)
      have hx78 : ∃ W, w69.drew = W ∧ Ext w69 W := ⟨_, rfl, (Ext.refl _).drew⟩
      obtain ⟨w77, e79, hx78⟩ := hx78
      have z80 := hx78.size
      refine any_start (fun W => Ext w77 W ∧ Blk W g2 26 (byteVals (List.replicate 32 0))) (fun i => i == 9) 10 #[false, false, false, false, false, false, false, false, false, false] rfl rfl rfl ?_
      rw [e79]; clear e79
      refine any_pure (i := 0) (v := (.slice A l.length c)) hF75 (by decide +kernel) (by decide +kernel) rfl rfl rfl rfl (fun _ _ _ _ h => h) rfl (fun W => (rn_move (hF75.get rfl))) ?_
      intro a81 hF82; clear hF75
      refine any_pure (i := 1) (v := (.int .i64 (half l.length : Nat))) hF82 (by decide +kernel) (by decide +kernel) rfl rfl rfl rfl (fun _ _ _ _ h => h) rfl (fun W => (rn_move (hF82.get rfl))) ?_
      intro a83 hF84; clear hF82
      refine any_pure (i := 2) (v := (.slice A (half l.length) c)) hF84 (by decide +kernel) (by decide +kernel) rfl rfl rfl rfl (fun _ _ _ _ h => h) rfl (fun W => (rn_sliceHi Tryd.underlying30 (by kernel_rfl : (Tryd.prog.info? 26).map (·.size) = some 32) (hF84.get rfl) (hF84.get rfl) (by omega : (0 : Int) ≤ (half l.length : Nat)) (by omega : ((half l.length : Nat) : Int) ≤ ((c : Nat) : Int)))) ?_
      intro a85 hF86; clear hF84
      refine any_pure (i := 4) (v := (.slice A l.length c)) hF86 (by decide +kernel) (by decide +kernel) rfl rfl rfl rfl (fun _ _ _ _ h => h) rfl (fun W => (rn_move (hF86.get rfl))) ?_
      intro a87 hF88; clear hF86
      refine any_pure (i := 5) (v := (.int .i64 (half l.length : Nat))) hF88 (by decide +kernel) (by decide +kernel) rfl rfl rfl rfl (fun _ _ _ _ h => h) rfl (fun W => (rn_move (hF88.get rfl))) ?_
      intro a89 hF90; clear hF88
      have d94 := (((hc.ext hx5).ext hx70).ext hx78)
      obtain ⟨b91, o92, hA93, -⟩ := Fl.at d94 (by omega)
      refine any_pure (i := 6) (v := (.slice (some ⟨b91, o92 + (half l.length) * 32, none⟩) (l.length - (half l.length)) (c - (half l.length)))) hF90 (by decide +kernel) (by decide +kernel) rfl rfl rfl rfl (fun _ _ _ _ h => h) rfl (fun W => (rn_sliceLo (l := (half l.length)) Tryd.underlying30 (by kernel_rfl : (Tryd.prog.info? 26).map (·.size) = some 32) ((hF90.get rfl).trans (by rw [hA93])) (hF90.get rfl) (by omega : (half l.length) ≤ l.length) (by omega : (half l.length) < c))) ?_
      intro a95 hF96; clear hF90
      refine any_one (i := 3) (by decide +kernel) rfl ?_
      have hf97 := (Fl.take_eq (j := (half l.length)) d94 (by omega) (digVals_take h32 _))
      have z98 := Fl.dlen hf97 (All32.take h32 _)
      refine o_call hF96 rfl rfl rfl rfl (rn_call (args1 (hF96.get rfl)) rfl (by kernel_rfl)) (ih (l.take (half l.length)) _ (n := (half l.length)) (.slice A (half l.length) c) (All32.take h32 _) hf97 (by omega) (by omega)) ?_
      rintro _ w99 ⟨rfl, hx100⟩
      refine ⟨_, rfl, ?_⟩; intro a101 hF102; clear hF96; have z103 := hx100.size
      have b104 : Blk w99 g2 26 (byteVals (List.replicate 32 0)) := (((b4.ext hx70).ext hx78).ext hx100)
      refine ⟨fun _ _ => ⟨((Ext.refl w77).trans hx100), b104⟩, ?_⟩
      refine any_one (i := 7) (by decide +kernel) rfl ?_
      have d105 := ((((hc.ext hx5).ext hx70).ext hx78).ext hx100)
      have hf106 := (Fl.drop_eq (j := (half l.length)) d105 hA93 (by omega) (digVals_drop h32 _))
      have z107 := Fl.dlen hf106 (All32.drop h32 _)
      refine o_call hF102 rfl rfl rfl rfl (rn_call (args1 (hF102.get rfl)) rfl (by kernel_rfl)) (ih (l.drop (half l.length)) _ (n := l.length - (half l.length)) (.slice (some ⟨b91, o92 + (half l.length) * 32, none⟩) (l.length - (half l.length)) (c - (half l.length))) (All32.drop h32 _) hf106 (by omega) (by omega)) ?_
      rintro _ w108 ⟨rfl, hx109⟩
      refine ⟨_, rfl, ?_⟩; intro a110 hF111; clear hF102; have z112 := hx109.size
      have b113 : Blk w108 g2 26 (byteVals (List.replicate 32 0)) := (b104.ext hx109)
      refine ⟨fun _ _ => ⟨(((Ext.refl w77).trans hx100).trans hx109), b113⟩, ?_⟩
      refine any_one (i := 8) (by decide +kernel) rfl ?_
      refine o_call hF111 rfl rfl rfl rfl (rn_call (args2 (hF111.get rfl) (hF111.get rfl)) rfl (by kernel_rfl)) (rnode_any (treeD (l.take (half l.length))) (treeD (l.drop (half l.length))) _ (treeD_len _) (treeD_len _)) ?_
      rintro _ w114 ⟨rfl, hx115⟩
      refine ⟨_, rfl, ?_⟩; intro a116 hF117; clear hF111; have z118 := hx115.size
      have b119 : Blk w114 g2 26 (byteVals (List.replicate 32 0)) := (b113.ext hx115)
      refine ⟨fun _ _ => ⟨((((Ext.refl w77).trans hx100).trans hx109).trans hx115), b119⟩, ?_⟩
      refine any_one (i := 9) (by decide +kernel) rfl ?_
      refine o_store (cells := (byteVals (nodeD (treeD (l.take (half l.length))) (treeD (l.drop (half l.length)))))) hF117 rfl rfl rfl rfl (hF117.get rfl) (hF117.get rfl) b119 ((by kernel_rfl : (Tryd.prog.info? 26).map (·.size) = some 32).trans (congrArg some (byteVals_len (nodeD_len _ _)).symm)) ((byteVals_len (show List.length (List.replicate 32 0) = _ from List.length_replicate)).trans (byteVals_len (nodeD_len _ _)).symm) (byteVals_one _) ?_
      intro w120 b121 hg122; have z123 := hg122.size
      refine ⟨fun h => absurd h (by decide), ?_⟩
      refine any_nil (by decide +kernel) ?_
      refine hK76 _ _ ?_
      clear hK76
      have hF124 := (((((hF117.nil.cons (hF117.get (t := 3) (v := (.int .i64 (half l.length : Nat))) rfl)).cons (hF117.get (t := 10) (v := (.bool (decide (((l.length : Nat) : Int) = (1 : Int))))) rfl)).cons (hF117.get (t := 6) (v := (.bool (decide (((l.length : Nat) : Int) = (0 : Int))))) rfl)).cons (hF117.get (t := 2) (v := (.pointer (some ⟨g2, 0, none⟩))) rfl)).cons (hF117.get (t := 0) (v := (.slice A l.length c)) rfl))
      clear hF117
      refine wp_ret ?_
      refine retC hF124 rfl rfl b121 Tryd.underlying26 rfl ((by kernel_rfl : (Tryd.prog.info? 26).map (·.size) = some 32).trans (congrArg some (byteVals_len (nodeD_len _ _)).symm)) ?_
      exact ⟨by rw [tree_two' (l := l) (by omega)], ((((((((Ext.refl w).trans hx5).trans hx70).trans hx78).trans hx100).trans hx109).trans hx115).grownN hg122 (by omega))⟩

theorem rtree_at (l : List (List UInt8)) (w : World) {n : Nat} {v : Value} (h32 : All32 l) (hf : Fl S w 32 v n (digVals l)) (hbig : n ≤ 4398046511104) : Calls Tryd.prog 17 #[v] w (fun e w' => e = .returned (.agg (byteVals (treeD l)).toArray) ∧ Ext w w') := rtree_ind _ l S w v h32 hf (by have := Fl.dlen hf h32; omega) (Nat.lt_succ_self _)

set_option maxRecDepth 100000 in
set_option maxHeartbeats 1000000 in
theorem rpath_ind : ∀ (N : Nat) (l : List (List UInt8)) (S : Nat → Prop) (w : World) {n : Nat} (v : Value) (_ : All32 l) (_ : Fl S w 32 v n (digVals l)) (_ : l.length ≤ 4398046511104) (at_ : Nat) (_ : at_ < List.length l) (_ : l.length < N),
    Calls Tryd.prog 34 #[v, .int .i64 (at_ : Nat)] w (fun e w' => ∃ A n c, e = .returned (.slice A n c) ∧ World.ownsRow w' (World.heap w).size 26 32 (.slice A n c) n (digVals (pathD l at_)) ∧ Ext w w') := by
  intro N
  induction N with
  | zero => intro l; intros; omega
  | succ N ih0 =>
  intro l S w n v h32 hf0 hbig at_ hat hN
  have ih : ∀ (l' : List (List UInt8)) (w' : World) {n : Nat} {S : Nat → Prop} (v' : Value) (_ : All32 l') (_ : Fl S w' 32 v' n (digVals l')) (_ : l'.length ≤ 4398046511104) (at_ : Nat) (_ : at_ < List.length l') (_ : l'.length < l.length), Calls Tryd.prog 34 #[v', .int .i64 (at_ : Nat)] w' (fun e w'' => ∃ A n c, e = .returned (.slice A n c) ∧ World.ownsRow w'' (World.heap w').size 26 32 (.slice A n c) n (digVals (pathD l' at_)) ∧ Ext w' w'') := by
    intros; apply ih0 <;> first | assumption | omega
  clear ih0
  have hm := Fl.dlen hf0 h32
  subst hm
  obtain ⟨A, c, rfl, hcc0⟩ := hf0.form
  have hf := hf0
  have hc : Fl (Clip S w) w 32 (.slice A l.length c) l.length (digVals l) := hf.clip
  have hcc := (Fl.cel hc).2.1
  refine calls_enter (l := [(.slice A l.length c), (.int .i64 (at_ : Nat))]) Tryd.func34 rfl rfl rfl (fun aA hF => ?_)
  refine wp_seq_k (fun K1 hK1 => ?_)
  refine wp_region_lit ?_
  refine wpl_op (i := 0) rfl (o_val (v := (.slice none 0 0)) hF rfl rfl rfl rfl (rn_assign rfl) ?_)
  intro a2 hF3; clear hF
  refine wpList_nil ?_
  refine hK1 _ _ ?_
  clear hK1
  refine wp_seq_k (fun K4 hK4 => ?_)
  refine wp_seq_k (fun K5 hK5 => ?_)
  refine wp_region_lit ?_
  refine wpl_op (i := 0) rfl (o_val (v := (.slice A l.length c)) hF3 rfl rfl rfl rfl (rn_move (hF3.get rfl)) ?_)
  intro a6 hF7; clear hF3
  refine wpl_op (i := 1) rfl (o_val (v := (.int .i64 (l.length : Nat))) hF7 rfl rfl rfl rfl (rn_len_slice Tryd.underlying30 (hF7.get rfl)) ?_)
  intro a8 hF9; clear hF7
  refine wpl_op (i := 2) rfl (o_val (v := (.bool (decide (((l.length : Nat) : Int) = (1 : Int))))) hF9 rfl rfl rfl rfl (rn_eql (hF9.get rfl) rfl) ?_)
  intro a10 hF11; clear hF9
  refine wpList_nil ?_
  refine hK5 _ _ ?_
  clear hK5
  by_cases hc12 : ((l.length : Nat) : Int) = (1 : Int)
  · skip
    refine wp_cond_true (c_true hF11 rfl (decide_eq_true hc12)) ?_
    refine wp_seq_k (fun K13 hK13 => ?_)
    refine wp_region_lit ?_
    refine wpl_op (i := 0) rfl (o_new (fun g => (.slice (some ⟨g, 0, none⟩) 0 0)) [] 26 hF11 rfl rfl rfl rfl (rn_buildSlice (parts0 ) (by kernel_rfl)) ?_)
    intro g14 w15 a20 hF21 z18 z19 b16 hx17; clear hF11
    refine wpl_op (i := 1) rfl (o_val (v := (.slice (some ⟨g14, 0, none⟩) 0 0)) hF21 rfl rfl rfl rfl (rn_assign (hF21.get rfl)) ?_)
    intro a22 hF23; clear hF21
    refine wpList_nil ?_
    refine hK13 _ _ ?_
    clear hK13
    refine wp_ret ?_
    refine ret_then ?_
    refine ret1 hF23 rfl rfl ?_
    exact ⟨_, 0, 0, rfl, by rw [pathD_one' (by omega)]; exact own_base (own_blk0 (k := 32) b16) (by omega), ((Ext.refl w).trans hx17)⟩
  · skip
    refine wp_cond_false (c_false hF11 rfl (decide_eq_false hc12)) ?_
    refine wp_skip ?_
    refine hK4 _ _ ?_
    clear hK4
    refine wp_seq_k (fun K24 hK24 => ?_)
    refine wp_region_lit ?_
    refine wpl_op (i := 0) rfl (o_val (v := (.slice A l.length c)) hF11 rfl rfl rfl rfl (rn_move (hF11.get rfl)) ?_)
    intro a25 hF26; clear hF11
    refine wpl_op (i := 1) rfl (o_val (v := (.int .i64 (l.length : Nat))) hF26 rfl rfl rfl rfl (rn_len_slice Tryd.underlying30 (hF26.get rfl)) ?_)
    intro a27 hF28; clear hF26
    have z29 := half_lt (n := l.length) (by omega); have z30 := half_pos l.length
    refine wpl_op (i := 2) rfl (o_call hF28 rfl rfl rfl rfl (rn_call (args1 (hF28.get rfl)) rfl (by kernel_rfl)) (rhalf_any l.length _ (by omega) (by omega)) ?_)
    rintro _ w31 ⟨rfl, hx32⟩
    refine ⟨_, rfl, ?_⟩; intro a33 hF34; clear hF28; have z35 := hx32.size
    refine wpl_op (i := 3) rfl (o_val (v := (.int .i64 (half l.length : Nat))) hF34 rfl rfl rfl rfl (rn_assign (hF34.get rfl)) ?_)
    intro a36 hF37; clear hF34
    refine wpList_nil ?_
    refine hK24 _ _ ?_
    clear hK24
    have hF38 := (((((hF37.nil.cons (hF37.get (t := 5) (v := (.int .i64 (half l.length : Nat))) rfl)).cons (hF37.get (t := 8) (v := (.bool (decide (((l.length : Nat) : Int) = (1 : Int))))) rfl)).cons (hF37.get (t := 4) (v := (.slice none 0 0)) rfl)).cons (hF37.get (t := 1) (v := (.int .i64 (at_ : Nat))) rfl)).cons (hF37.get (t := 0) (v := (.slice A l.length c)) rfl))
    clear hF37
    refine wp_seq_k (fun K39 hK39 => ?_)
    refine wp_seq_k (fun K40 hK40 => ?_)
    refine wp_region_lit ?_
    refine wpl_op (i := 0) rfl (o_val (v := (.int .i64 (at_ : Nat))) hF38 rfl rfl rfl rfl (rn_move (hF38.get rfl)) ?_)
    intro a41 hF42; clear hF38
    refine wpl_op (i := 1) rfl (o_val (v := (.int .i64 (half l.length : Nat))) hF42 rfl rfl rfl rfl (rn_move (hF42.get rfl)) ?_)
    intro a43 hF44; clear hF42
    refine wpl_op (i := 2) rfl (o_val (v := (.bool (decide (((at_ : Nat) : Int) < ((half l.length : Nat) : Int))))) hF44 rfl rfl rfl rfl (rn_lss (hF44.get rfl) (hF44.get rfl)) ?_)
    intro a45 hF46; clear hF44
    refine wpList_nil ?_
    refine hK40 _ _ ?_
    clear hK40
    by_cases hc47 : ((at_ : Nat) : Int) < ((half l.length : Nat) : Int)
    · skip
      refine wp_cond_true (c_true hF46 rfl (decide_eq_true hc47)) ?_
      refine wp_seq_k (fun K48 hK48 => ?_)
      have hx50 : ∃ W, w31.drew = W ∧ Ext w31 W := ⟨_, rfl, (Ext.refl _).drew⟩
      obtain ⟨w49, e51, hx50⟩ := hx50
      have z52 := hx50.size
      refine any_start (fun W => True) (fun i => false) 12 #[false, false, false, false, false, false, false, false, false, false, false, false] rfl rfl rfl ?_
      rw [e51]; clear e51
      refine any_pure (i := 0) (v := (.slice A l.length c)) hF46 (by decide +kernel) (by decide +kernel) rfl rfl rfl rfl (fun _ _ _ _ h => h) rfl (fun W => (rn_move (hF46.get rfl))) ?_
      intro a53 hF54; clear hF46
      refine any_pure (i := 1) (v := (.int .i64 (half l.length : Nat))) hF54 (by decide +kernel) (by decide +kernel) rfl rfl rfl rfl (fun _ _ _ _ h => h) rfl (fun W => (rn_move (hF54.get rfl))) ?_
      intro a55 hF56; clear hF54
      refine any_pure (i := 2) (v := (.slice A (half l.length) c)) hF56 (by decide +kernel) (by decide +kernel) rfl rfl rfl rfl (fun _ _ _ _ h => h) rfl (fun W => (rn_sliceHi Tryd.underlying30 (by kernel_rfl : (Tryd.prog.info? 26).map (·.size) = some 32) (hF56.get rfl) (hF56.get rfl) (by omega : (0 : Int) ≤ (half l.length : Nat)) (by omega : ((half l.length : Nat) : Int) ≤ ((c : Nat) : Int)))) ?_
      intro a57 hF58; clear hF56
      refine any_pure (i := 3) (v := (.int .i64 (at_ : Nat))) hF58 (by decide +kernel) (by decide +kernel) rfl rfl rfl rfl (fun _ _ _ _ h => h) rfl (fun W => (rn_move (hF58.get rfl))) ?_
      intro a59 hF60; clear hF58
      refine any_pure (i := 5) (v := (.slice A l.length c)) hF60 (by decide +kernel) (by decide +kernel) rfl rfl rfl rfl (fun _ _ _ _ h => h) rfl (fun W => (rn_move (hF60.get rfl))) ?_
      intro a61 hF62; clear hF60
      refine any_pure (i := 6) (v := (.int .i64 (half l.length : Nat))) hF62 (by decide +kernel) (by decide +kernel) rfl rfl rfl rfl (fun _ _ _ _ h => h) rfl (fun W => (rn_move (hF62.get rfl))) ?_
      intro a63 hF64; clear hF62
      have d68 := ((hc.ext hx32).ext hx50)
      obtain ⟨b65, o66, hA67, -⟩ := Fl.at d68 (by omega)
      refine any_pure (i := 7) (v := (.slice (some ⟨b65, o66 + (half l.length) * 32, none⟩) (l.length - (half l.length)) (c - (half l.length)))) hF64 (by decide +kernel) (by decide +kernel) rfl rfl rfl rfl (fun _ _ _ _ h => h) rfl (fun W => (rn_sliceLo (l := (half l.length)) Tryd.underlying30 (by kernel_rfl : (Tryd.prog.info? 26).map (·.size) = some 32) ((hF64.get rfl).trans (by rw [hA67])) (hF64.get rfl) (by omega : (half l.length) ≤ l.length) (by omega : (half l.length) < c))) ?_
      intro a69 hF70; clear hF64
      refine any_one (i := 4) (by decide +kernel) rfl ?_
      have hf71 := (Fl.take_eq (j := (half l.length)) d68 (by omega) (digVals_take h32 _))
      have z72 := Fl.dlen hf71 (All32.take h32 _)
      have z73 := pathD_len (l.take (half l.length)) at_
      refine o_call hF70 rfl rfl rfl rfl (rn_call (args2 (hF70.get rfl) (hF70.get rfl)) rfl (by kernel_rfl)) (ih (l.take (half l.length)) _ (n := (half l.length)) (.slice A (half l.length) c) (All32.take h32 _) hf71 (by omega) at_ (by omega) (by omega)) ?_
      rintro _ w79 ⟨A74, n75, c76, rfl, r77, hx80⟩
      have z78 := own_form0 r77
      refine ⟨_, rfl, ?_⟩; intro a81 hF82; clear hF70; have z83 := hx80.size
      have z84 := Fl.dlen (Fl.own (S := fun b => w49.heap.size ≤ b) r77 (fun b hb => hb) (digVals_one _)) (pathD_32 _ _ _ (Nat.le_refl _))
      refine ⟨fun _ _ => trivial, ?_⟩
      refine any_one (i := 8) (by decide +kernel) rfl ?_
      have d85 := (((hc.ext hx32).ext hx50).ext hx80)
      have hf86 := (Fl.drop_eq (j := (half l.length)) d85 hA67 (by omega) (digVals_drop h32 _))
      refine o_call hF82 rfl rfl rfl rfl (rn_call (args1 (hF82.get rfl)) rfl (by kernel_rfl)) (rtree_at (l.drop (half l.length)) _ (n := l.length - (half l.length)) (v := (.slice (some ⟨b65, o66 + (half l.length) * 32, none⟩) (l.length - (half l.length)) (c - (half l.length)))) (All32.drop h32 _) hf86 (by omega)) ?_
      rintro _ w87 ⟨rfl, hx88⟩
      refine ⟨_, rfl, ?_⟩; intro a89 hF90; clear hF82; have z91 := hx88.size
      refine ⟨fun _ _ => trivial, ?_⟩
      refine any_one (i := 9) (by decide +kernel) rfl ?_
      refine o_new (fun g => (.slice (some ⟨g, 0, none⟩) 1 1)) (byteVals ((treeD (l.drop (half l.length))))) 26 hF90 rfl rfl rfl rfl (rn_buildSlice (parts1 (hF90.get rfl)) (build_wholeE (vs := [(.agg (byteVals (treeD (l.drop (half l.length)))).toArray)]) El30 rfl rfl (fun v hv => by rw [List.mem_singleton.1 hv]; exact (byteVals_len (treeD_len _))) (by decide) (by decide) (by simp [Value.cells, byteVals]))) ?_
      intro g92 w93 a98 hF99 z96 z97 b94 hx95; clear hF90
      refine ⟨fun _ _ => trivial, ?_⟩
      refine any_one (i := 10) (by decide +kernel) rfl ?_
      have r100 := (own_ext (own_ext r77 hx88) hx95)
      have hf108 := r100
      refine o_appA (zs := digVals ((pathD (l.take (half l.length)) at_) ++ ([treeD (l.drop (half l.length))]))) El30 hF99 rfl rfl rfl rfl rfl (hF99.get rfl) (hF99.get rfl) hf108 (Fl.cel (Fl.digblk (S := fun b => b = g92) b94 (All32.sing (treeD_len _)) (by simp [digVals, byteVals]))).2.2 (by omega) (by omega) (by omega) (digVals_app _ _) ?_
      intro A101 c102 w103 a109 hF110 r104 hg105 z106 z107; clear hF99; have z111 := hg105.size
      refine ⟨fun _ _ => trivial, ?_⟩
      refine any_pure (i := 11) (v := (.slice A101 (n75 + 1) c102)) hF110 (by decide +kernel) (by decide +kernel) rfl rfl rfl rfl (fun _ _ _ _ h => h) rfl (fun W => (rn_assign (hF110.get rfl))) ?_
      intro a112 hF113; clear hF110
      refine any_nil (by decide +kernel) ?_
      refine hK48 _ _ ?_
      clear hK48
      have hF114 := ((((((hF113.nil.cons (hF113.get (t := 15) (v := (.bool (decide (((at_ : Nat) : Int) < ((half l.length : Nat) : Int))))) rfl)).cons (hF113.get (t := 5) (v := (.int .i64 (half l.length : Nat))) rfl)).cons (hF113.get (t := 8) (v := (.bool (decide (((l.length : Nat) : Int) = (1 : Int))))) rfl)).cons (hF113.get (t := 4) (v := (.slice A101 (n75 + 1) c102)) rfl)).cons (hF113.get (t := 1) (v := (.int .i64 (at_ : Nat))) rfl)).cons (hF113.get (t := 0) (v := (.slice A l.length c)) rfl))
      clear hF113
      refine wp_ret ?_
      refine ret_then ?_
      refine ret1 hF114 rfl rfl ?_
      exact ⟨_, _, _, rfl, by rw [pathD_first' (l := l) (by omega) (by omega)]; exact own_base r104 (by omega), (ext_row ((((((Ext.refl w).trans hx32).trans hx50).trans hx80).trans hx88).trans hx95) hg105 hf108 (by omega))⟩
    · skip
      refine wp_cond_false (c_false hF46 rfl (decide_eq_false hc47)) ?_
      refine wp_skip ?_
      refine hK39 _ _ ?_
      clear hK39
      refine wp_seq_k (fun K115 hK115 => ?_)
      have hx117 : ∃ W, w31.drew = W ∧ Ext w31 W := ⟨_, rfl, (Ext.refl _).drew⟩
      obtain ⟨w116, e118, hx117⟩ := hx117
      have z119 := hx117.size
      refine any_start (fun W => True) (fun i => false) 14 #[false, false, false, false, false, false, false, false, false, false, false, false, false, false] rfl rfl rfl ?_
      rw [e118]; clear e118
      refine any_pure (i := 0) (v := (.slice A l.length c)) hF46 (by decide +kernel) (by decide +kernel) rfl rfl rfl rfl (fun _ _ _ _ h => h) rfl (fun W => (rn_move (hF46.get rfl))) ?_
      intro a120 hF121; clear hF46
      refine any_pure (i := 1) (v := (.int .i64 (half l.length : Nat))) hF121 (by decide +kernel) (by decide +kernel) rfl rfl rfl rfl (fun _ _ _ _ h => h) rfl (fun W => (rn_move (hF121.get rfl))) ?_
      intro a122 hF123; clear hF121
      have d127 := ((hc.ext hx32).ext hx117)
      obtain ⟨b124, o125, hA126, -⟩ := Fl.at d127 (by omega)
      refine any_pure (i := 2) (v := (.slice (some ⟨b124, o125 + (half l.length) * 32, none⟩) (l.length - (half l.length)) (c - (half l.length)))) hF123 (by decide +kernel) (by decide +kernel) rfl rfl rfl rfl (fun _ _ _ _ h => h) rfl (fun W => (rn_sliceLo (l := (half l.length)) Tryd.underlying30 (by kernel_rfl : (Tryd.prog.info? 26).map (·.size) = some 32) ((hF123.get rfl).trans (by rw [hA126])) (hF123.get rfl) (by omega : (half l.length) ≤ l.length) (by omega : (half l.length) < c))) ?_
      intro a128 hF129; clear hF123
      refine any_pure (i := 3) (v := (.int .i64 (at_ : Nat))) hF129 (by decide +kernel) (by decide +kernel) rfl rfl rfl rfl (fun _ _ _ _ h => h) rfl (fun W => (rn_move (hF129.get rfl))) ?_
      intro a130 hF131; clear hF129
      refine any_pure (i := 4) (v := (.int .i64 (half l.length : Nat))) hF131 (by decide +kernel) (by decide +kernel) rfl rfl rfl rfl (fun _ _ _ _ h => h) rfl (fun W => (rn_move (hF131.get rfl))) ?_
      intro a132 hF133; clear hF131
      refine any_pure (i := 5) (v := (.int .i64 (at_ - (half l.length) : Nat))) hF133 (by decide +kernel) (by decide +kernel) rfl rfl rfl rfl (fun _ _ _ _ h => h) rfl (fun W => (rn_subN (a := at_) (b := half l.length) (hF133.get rfl) (hF133.get rfl) (by omega) (by omega))) ?_
      intro a134 hF135; clear hF133
      refine any_pure (i := 7) (v := (.slice A l.length c)) hF135 (by decide +kernel) (by decide +kernel) rfl rfl rfl rfl (fun _ _ _ _ h => h) rfl (fun W => (rn_move (hF135.get rfl))) ?_
      intro a136 hF137; clear hF135
      refine any_pure (i := 8) (v := (.int .i64 (half l.length : Nat))) hF137 (by decide +kernel) (by decide +kernel) rfl rfl rfl rfl (fun _ _ _ _ h => h) rfl (fun W => (rn_move (hF137.get rfl))) ?_
      intro a138 hF139; clear hF137
      refine any_pure (i := 9) (v := (.slice A (half l.length) c)) hF139 (by decide +kernel) (by decide +kernel) rfl rfl rfl rfl (fun _ _ _ _ h => h) rfl (fun W => (rn_sliceHi Tryd.underlying30 (by kernel_rfl : (Tryd.prog.info? 26).map (·.size) = some 32) (hF139.get rfl) (hF139.get rfl) (by omega : (0 : Int) ≤ (half l.length : Nat)) (by omega : ((half l.length : Nat) : Int) ≤ ((c : Nat) : Int)))) ?_
      intro a140 hF141; clear hF139
      refine any_one (i := 6) (by decide +kernel) rfl ?_
      have hf142 := (Fl.drop_eq (j := (half l.length)) d127 hA126 (by omega) (digVals_drop h32 _))
      have z143 := Fl.dlen hf142 (All32.drop h32 _)
      have z144 := pathD_len (l.drop (half l.length)) (at_ - (half l.length))
      refine o_call hF141 rfl rfl rfl rfl (rn_call (args2 (hF141.get rfl) (hF141.get rfl)) rfl (by kernel_rfl)) (ih (l.drop (half l.length)) _ (n := l.length - (half l.length)) (.slice (some ⟨b124, o125 + (half l.length) * 32, none⟩) (l.length - (half l.length)) (c - (half l.length))) (All32.drop h32 _) hf142 (by omega) (at_ - (half l.length)) (by omega) (by omega)) ?_
      rintro _ w150 ⟨A145, n146, c147, rfl, r148, hx151⟩
      have z149 := own_form0 r148
      refine ⟨_, rfl, ?_⟩; intro a152 hF153; clear hF141; have z154 := hx151.size
      have z155 := Fl.dlen (Fl.own (S := fun b => w116.heap.size ≤ b) r148 (fun b hb => hb) (digVals_one _)) (pathD_32 _ _ _ (Nat.le_refl _))
      refine ⟨fun _ _ => trivial, ?_⟩
      refine any_one (i := 10) (by decide +kernel) rfl ?_
      have d156 := (((hc.ext hx32).ext hx117).ext hx151)
      have hf157 := (Fl.take_eq (j := (half l.length)) d156 (by omega) (digVals_take h32 _))
      refine o_call hF153 rfl rfl rfl rfl (rn_call (args1 (hF153.get rfl)) rfl (by kernel_rfl)) (rtree_at (l.take (half l.length)) _ (n := (half l.length)) (v := (.slice A (half l.length) c)) (All32.take h32 _) hf157 (by omega)) ?_
      rintro _ w158 ⟨rfl, hx159⟩
      refine ⟨_, rfl, ?_⟩; intro a160 hF161; clear hF153; have z162 := hx159.size
      refine ⟨fun _ _ => trivial, ?_⟩
      refine any_one (i := 11) (by decide +kernel) rfl ?_
      refine o_new (fun g => (.slice (some ⟨g, 0, none⟩) 1 1)) (byteVals ((treeD (l.take (half l.length))))) 26 hF161 rfl rfl rfl rfl (rn_buildSlice (parts1 (hF161.get rfl)) (build_wholeE (vs := [(.agg (byteVals (treeD (l.take (half l.length)))).toArray)]) El30 rfl rfl (fun v hv => by rw [List.mem_singleton.1 hv]; exact (byteVals_len (treeD_len _))) (by decide) (by decide) (by simp [Value.cells, byteVals]))) ?_
      intro g163 w164 a169 hF170 z167 z168 b165 hx166; clear hF161
      refine ⟨fun _ _ => trivial, ?_⟩
      refine any_one (i := 12) (by decide +kernel) rfl ?_
      have r171 := (own_ext (own_ext r148 hx159) hx166)
      have hf179 := r171
      refine o_appA (zs := digVals ((pathD (l.drop (half l.length)) (at_ - (half l.length))) ++ ([treeD (l.take (half l.length))]))) El30 hF170 rfl rfl rfl rfl rfl (hF170.get rfl) (hF170.get rfl) hf179 (Fl.cel (Fl.digblk (S := fun b => b = g163) b165 (All32.sing (treeD_len _)) (by simp [digVals, byteVals]))).2.2 (by omega) (by omega) (by omega) (digVals_app _ _) ?_
      intro A172 c173 w174 a180 hF181 r175 hg176 z177 z178; clear hF170; have z182 := hg176.size
      refine ⟨fun _ _ => trivial, ?_⟩
      refine any_pure (i := 13) (v := (.slice A172 (n146 + 1) c173)) hF181 (by decide +kernel) (by decide +kernel) rfl rfl rfl rfl (fun _ _ _ _ h => h) rfl (fun W => (rn_assign (hF181.get rfl))) ?_
      intro a183 hF184; clear hF181
      refine any_nil (by decide +kernel) ?_
      refine hK115 _ _ ?_
      clear hK115
      have hF185 := ((((((hF184.nil.cons (hF184.get (t := 15) (v := (.bool (decide (((at_ : Nat) : Int) < ((half l.length : Nat) : Int))))) rfl)).cons (hF184.get (t := 5) (v := (.int .i64 (half l.length : Nat))) rfl)).cons (hF184.get (t := 8) (v := (.bool (decide (((l.length : Nat) : Int) = (1 : Int))))) rfl)).cons (hF184.get (t := 4) (v := (.slice A172 (n146 + 1) c173)) rfl)).cons (hF184.get (t := 1) (v := (.int .i64 (at_ : Nat))) rfl)).cons (hF184.get (t := 0) (v := (.slice A l.length c)) rfl))
      clear hF184
      refine wp_ret ?_
      refine ret1 hF185 rfl rfl ?_
      exact ⟨_, _, _, rfl, by rw [pathD_second' (l := l) (by omega) (by omega)]; exact own_base r175 (by omega), (ext_row ((((((Ext.refl w).trans hx32).trans hx117).trans hx151).trans hx159).trans hx166) hg176 hf179 (by omega))⟩

theorem rpath_at (l : List (List UInt8)) (w : World) {n : Nat} {v : Value} (h32 : All32 l) (hf : Fl S w 32 v n (digVals l)) (hbig : n ≤ 4398046511104) (at_ : Int) (h0 : 0 ≤ at_) (hat : at_ < n) :
    Calls Tryd.prog 34 #[v, .int .i64 at_] w (fun e w' => ∃ A n c, e = .returned (.slice A n c) ∧ w'.ownsRow w.heap.size 26 32 (.slice A n c) n (digVals (pathD l at_.toNat)) ∧ Ext w w') := by
  obtain ⟨an, rfl⟩ : ∃ an : Nat, at_ = (an : Int) := ⟨at_.toNat, by omega⟩
  exact rpath_ind _ l S w v h32 hf (by have := Fl.dlen hf h32; omega) an (by have := Fl.dlen hf h32; omega) (Nat.lt_succ_self _)

set_option maxRecDepth 100000 in
set_option maxHeartbeats 1000000 in
theorem rPath_any (A : Option Addr) (c : Nat) (l : List (List UInt8)) (at_ : Int) (w : World) (h32 : All32 l) (hf : Fl S w 32 (.slice A l.length c) l.length (digVals l)) (hbig : l.length ≤ 4398046511104) :
    Calls Tryd.prog 19 #[.slice A l.length c, .int .i64 at_] w (fun e w' => ∃ A' n c', e = .returned (.tuple #[.slice A' n c', .int .i64 (pathF l at_).2]) ∧ Fl (fun b => w.heap.size ≤ b) w' 32 (.slice A' n c') n (digVals (pathF l at_).1) ∧ All32 (pathF l at_).1 ∧ Ext w w') := by
  have hc : Fl (Clip S w) w 32 (.slice A l.length c) l.length (digVals l) := hf.clip
  have hcc := (Fl.cel hc).2.1
  refine calls_enter (l := [(.slice A l.length c), (.int .i64 at_)]) Tryd.func19 rfl rfl rfl (fun aA hF => ?_)
  refine wp_seq_k (fun K1 hK1 => ?_)
  refine wp_region_lit ?_
  refine wpl_op (i := 0) rfl (o_val (v := (.slice none 0 0)) hF rfl rfl rfl rfl (rn_assign rfl) ?_)
  intro a2 hF3; clear hF
  refine wpl_op (i := 1) rfl (o_val (v := (.int .i64 0)) hF3 rfl rfl rfl rfl (rn_assign rfl) ?_)
  intro a4 hF5; clear hF3
  refine wpList_nil ?_
  refine hK1 _ _ ?_
  clear hK1
  refine wp_seq_k (fun K6 hK6 => ?_)
  refine wp_seq_k (fun K7 hK7 => ?_)
  refine wp_region_lit ?_
  refine wpl_op (i := 0) rfl (o_val (v := (.int .i64 at_)) hF5 rfl rfl rfl rfl (rn_move (hF5.get rfl)) ?_)
  intro a8 hF9; clear hF5
  refine wpl_op (i := 1) rfl (o_val (v := (.bool (decide ((at_ : Int) < (0 : Int))))) hF9 rfl rfl rfl rfl (rn_lss (hF9.get rfl) rfl) ?_)
  intro a10 hF11; clear hF9
  refine wpl_op (i := 2) rfl (o_val (v := (.bool (decide ((at_ : Int) < (0 : Int))))) hF11 rfl rfl rfl rfl (rn_move (hF11.get rfl)) ?_)
  intro a12 hF13; clear hF11
  by_cases hc14 : (at_ : Int) < (0 : Int)
  · skip
    refine wpl_op (i := 3) rfl (o_skip hF13 rfl (unwanted_guard rfl rfl rfl hF13 rfl (decide_eq_true hc14) rfl) rfl rfl ?_)
    intro a15 hF16; clear hF13
    refine wpl_op (i := 4) rfl (o_skip hF16 rfl (unwanted_guard rfl rfl rfl hF16 rfl (decide_eq_true hc14) rfl) rfl rfl ?_)
    intro a17 hF18; clear hF16
    refine wpl_op (i := 5) rfl (o_skip hF18 rfl (unwanted_guard rfl rfl rfl hF18 rfl (decide_eq_true hc14) rfl) rfl rfl ?_)
    intro a19 hF20; clear hF18
    refine wpl_op (i := 6) rfl (o_skip hF20 rfl (unwanted_guard rfl rfl rfl hF20 rfl (decide_eq_true hc14) rfl) rfl rfl ?_)
    intro a21 hF22; clear hF20
    refine wpl_op (i := 7) rfl (o_val (v := (.bool true)) hF22 rfl rfl rfl rfl (rn_pickT (c_true hF22 rfl (decide_eq_true hc14)) rfl) ?_)
    intro a23 hF24; clear hF22
    refine wpList_nil ?_
    refine hK7 _ _ ?_
    clear hK7
    have hF25 := (((((hF24.nil.cons (hF24.get (t := 13) (v := (.bool true)) rfl)).cons (hF24.get (t := 5) (v := (.int .i64 0)) rfl)).cons (hF24.get (t := 4) (v := (.slice none 0 0)) rfl)).cons (hF24.get (t := 1) (v := (.int .i64 at_)) rfl)).cons (hF24.get (t := 0) (v := (.slice A l.length c)) rfl))
    clear hF24
    refine wp_cond_true (c_true hF25 rfl rfl) ?_
    refine wp_seq_k (fun K26 hK26 => ?_)
    refine wp_region_lit ?_
    refine wpl_op (i := 0) rfl (o_val (v := (.slice none 0 0)) hF25 rfl rfl rfl rfl (rn_assign rfl) ?_)
    intro a27 hF28; clear hF25
    refine wpl_op (i := 1) rfl (o_val (v := (.int .i64 1)) hF28 rfl rfl rfl rfl (rn_assign rfl) ?_)
    intro a29 hF30; clear hF28
    refine wpList_nil ?_
    refine hK26 _ _ ?_
    clear hK26
    refine wp_ret ?_
    refine ret_then ?_
    refine ret2 hF30 rfl rfl rfl ?_
    exact ⟨none, 0, 0, by rw [pathF, if_pos (by omega)], by rw [pathF, if_pos (by omega)]; exact Fl.nil _, by rw [pathF, if_pos (by omega)]; exact All32.nil, (Ext.refl w)⟩
  · skip
    refine wpl_op (i := 3) rfl (o_val (v := (.int .i64 at_)) hF13 rfl (wanted_guard rfl rfl rfl hF13 rfl (decide_eq_false hc14) rfl) rfl rfl (rn_move (hF13.get rfl)) ?_)
    intro a31 hF32; clear hF13
    refine wpl_op (i := 4) rfl (o_val (v := (.slice A l.length c)) hF32 rfl (wanted_guard rfl rfl rfl hF32 rfl (decide_eq_false hc14) rfl) rfl rfl (rn_move (hF32.get rfl)) ?_)
    intro a33 hF34; clear hF32
    refine wpl_op (i := 5) rfl (o_val (v := (.int .i64 (l.length : Nat))) hF34 rfl (wanted_guard rfl rfl rfl hF34 rfl (decide_eq_false hc14) rfl) rfl rfl (rn_len_slice Tryd.underlying30 (hF34.get rfl)) ?_)
    intro a35 hF36; clear hF34
    refine wpl_op (i := 6) rfl (o_val (v := (.bool (decide (((l.length : Nat) : Int) ≤ (at_ : Int))))) hF36 rfl (wanted_guard rfl rfl rfl hF36 rfl (decide_eq_false hc14) rfl) rfl rfl (rn_geq (hF36.get rfl) (hF36.get rfl)) ?_)
    intro a37 hF38; clear hF36
    refine wpl_op (i := 7) rfl (o_val (v := (.bool (decide (((l.length : Nat) : Int) ≤ (at_ : Int))))) hF38 rfl rfl rfl rfl (rn_pickF (c_false hF38 rfl (decide_eq_false hc14)) (hF38.get rfl)) ?_)
    intro a39 hF40; clear hF38
    refine wpList_nil ?_
    refine hK7 _ _ ?_
    clear hK7
    have hF41 := (((((hF40.nil.cons (hF40.get (t := 13) (v := (.bool (decide (((l.length : Nat) : Int) ≤ (at_ : Int))))) rfl)).cons (hF40.get (t := 5) (v := (.int .i64 0)) rfl)).cons (hF40.get (t := 4) (v := (.slice none 0 0)) rfl)).cons (hF40.get (t := 1) (v := (.int .i64 at_)) rfl)).cons (hF40.get (t := 0) (v := (.slice A l.length c)) rfl))
    clear hF40
    by_cases hc42 : ((l.length : Nat) : Int) ≤ (at_ : Int)
    · skip
      refine wp_cond_true (c_true hF41 rfl (decide_eq_true hc42)) ?_
      refine wp_seq_k (fun K43 hK43 => ?_)
      refine wp_region_lit ?_
      refine wpl_op (i := 0) rfl (o_val (v := (.slice none 0 0)) hF41 rfl rfl rfl rfl (rn_assign rfl) ?_)
      intro a44 hF45; clear hF41
      refine wpl_op (i := 1) rfl (o_val (v := (.int .i64 1)) hF45 rfl rfl rfl rfl (rn_assign rfl) ?_)
      intro a46 hF47; clear hF45
      refine wpList_nil ?_
      refine hK43 _ _ ?_
      clear hK43
      refine wp_ret ?_
      refine ret_then ?_
      refine ret2 hF47 rfl rfl rfl ?_
      exact ⟨none, 0, 0, by rw [pathF, if_pos (by omega)], by rw [pathF, if_pos (by omega)]; exact Fl.nil _, by rw [pathF, if_pos (by omega)]; exact All32.nil, (Ext.refl w)⟩
    · skip
      refine wp_cond_false (c_false hF41 rfl (decide_eq_false hc42)) ?_
      refine wp_skip ?_
      refine hK6 _ _ ?_
      clear hK6
      refine wp_seq_k (fun K48 hK48 => ?_)
      refine wp_region_lit ?_
      refine wpl_op (i := 0) rfl (o_val (v := (.slice A l.length c)) hF41 rfl rfl rfl rfl (rn_move (hF41.get rfl)) ?_)
      intro a49 hF50; clear hF41
      refine wpl_op (i := 1) rfl (o_val (v := (.int .i64 at_)) hF50 rfl rfl rfl rfl (rn_move (hF50.get rfl)) ?_)
      intro a51 hF52; clear hF50
      have hf53 := hc
      refine wpl_op (i := 2) rfl (o_call hF52 rfl rfl rfl rfl (rn_call (args2 (hF52.get rfl) (hF52.get rfl)) rfl (by kernel_rfl)) (rpath_at l _ (n := l.length) (v := (.slice A l.length c)) h32 hf53 (by omega) at_ (by omega) (by omega)) ?_)
      rintro _ w59 ⟨A54, n55, c56, rfl, r57, hx60⟩
      refine ⟨_, rfl, ?_⟩; intro a61 hF62; clear hF52; have z63 := hx60.size
      refine wpl_op (i := 3) rfl (o_val (v := (.slice A54 n55 c56)) hF62 rfl rfl rfl rfl (rn_assign (hF62.get rfl)) ?_)
      intro a64 hF65; clear hF62
      refine wpl_op (i := 4) rfl (o_val (v := (.int .i64 0)) hF65 rfl rfl rfl rfl (rn_assign rfl) ?_)
      intro a66 hF67; clear hF65
      refine wpList_nil ?_
      refine hK48 _ _ ?_
      clear hK48
      refine wp_ret ?_
      refine ret2 hF67 rfl rfl rfl ?_
      have hpf : pathF l at_ = (pathD l at_.toNat, 0) := by rw [pathF, if_neg (by omega)]
      exact ⟨_, _, _, by rw [hpf], by rw [hpf]; exact Fl.own (S := fun b => w.heap.size ≤ b) r57 (fun b hb => by omega) (digVals_one _), by rw [hpf]; exact pathD_32 _ _ _ (Nat.le_refl _), ((Ext.refl w).trans hx60)⟩

theorem rPath_at {v : Value} {n : Nat} (l : List (List UInt8)) (at_ : Int) (w : World) (h32 : All32 l) (hf : Fl S w 32 v n (digVals l)) (hbig : n ≤ 4398046511104) :
    Calls Tryd.prog 19 #[v, .int .i64 at_] w (fun e w' => ∃ A' n c', e = .returned (.tuple #[.slice A' n c', .int .i64 (pathF l at_).2]) ∧ Fl (fun b => w.heap.size ≤ b) w' 32 (.slice A' n c') n (digVals (pathF l at_).1) ∧ All32 (pathF l at_).1 ∧ Ext w w') := by
  have hm := Fl.dlen hf h32
  subst hm
  obtain ⟨A, c, rfl, _⟩ := hf.form
  exact rPath_any A c l at_ w h32 hf hbig

end Go.Proofs.YtgodliookpgliaaDoor
