/- The law DigestTreeSpec walked. -/
import Derived.Test.YtgodliookpgliaaDoorProg
import Derived.Test.YtgodliookpgliaaDoorLawB3
import Derived.Test.YtgodliookpgliaaDoorWk11
import Derived.Test.YtgodliookpgliaaDoorRefF3
import Derived.Test.YtgodliookpgliaaDoorAndI
import Derived.KernelRfl
namespace Go.Proofs.YtgodliookpgliaaDoor
open Go.RowKit

variable {S S' : Nat → Prop}

set_option maxRecDepth 100000 in
set_option maxHeartbeats 1000000 in
theorem treespec_any (A : Option Addr) (c : Nat) (s : List UInt8) (w : World) (hf : Fl S w 1 (.slice A s.length c) s.length (byteVals s)) (hG : Glob w) (at_ n : Int) (d : List UInt8) (hd : d.length = 32) :
    Calls Tryd.prog 4 #[.slice A s.length c, .int .i64 at_, .int .i64 n, .agg (byteVals d).toArray] w (fun e w' => e = .returned (.bool true) ∧ Ext w w') := by
  have hc : Fl (Clip S w) w 1 (.slice A s.length c) s.length (byteVals s) := hf.clip
  have hcc := (Fl.cel hc).2.1
  refine calls_enter (l := [(.slice A s.length c), (.int .i64 at_), (.int .i64 n), (.agg (byteVals d).toArray)]) Tryd.func4 rfl rfl rfl (fun aA hF => ?_)
  refine wp_seq_k (fun K1 hK1 => ?_)
  refine wp_region_lit ?_
  refine wpl_op (i := 0) rfl (o_new (fun g => (.pointer (some ⟨g, 0, none⟩))) (byteVals d) 26 hF rfl rfl rfl rfl (rn_box (hF.get rfl) (box_arr _)) ?_)
  intro g2 w3 a8 hF9 z6 z7 b4 hx5; clear hF
  refine wpl_op (i := 1) rfl (o_val (v := (.bool false)) hF9 rfl rfl rfl rfl (rn_assign rfl) ?_)
  intro a10 hF11; clear hF9
  refine wpList_nil ?_
  refine hK1 _ _ ?_
  clear hK1
  refine wp_seq_k (fun K12 hK12 => ?_)
  refine wp_seq_k (fun K13 hK13 => ?_)
  refine wp_region_lit ?_
  refine wpl_op (i := 0) rfl (o_call hF11 rfl rfl rfl rfl (rn_call (args0 ) rfl (by kernel_rfl)) (sane_any _ (hG.ext ((Ext.refl w).trans hx5))) ?_)
  rintro _ w14 ⟨rfl, hx15⟩
  refine ⟨_, rfl, ?_⟩; intro a16 hF17; clear hF11; have z18 := hx15.size
  refine wpl_op (i := 1) rfl (o_val (v := (.bool false)) hF17 rfl rfl rfl rfl (rn_not' (hF17.get rfl) rfl) ?_)
  intro a19 hF20; clear hF17
  refine wpList_nil ?_
  refine hK13 _ _ ?_
  clear hK13
  refine wp_cond_false (c_false hF20 rfl rfl) ?_
  refine wp_skip ?_
  refine hK12 _ _ ?_
  clear hK12
  refine wp_seq_k (fun K21 hK21 => ?_)
  refine wp_region_lit ?_
  refine wpl_op (i := 0) rfl (o_val (v := (.slice A s.length c)) hF20 rfl rfl rfl rfl (rn_move (hF20.get rfl)) ?_)
  intro a22 hF23; clear hF20
  have d24 := ((hc.ext hx5).ext hx15)
  refine wpl_op (i := 1) rfl (o_call hF23 rfl rfl rfl rfl (rn_call (args1 (hF23.get rfl)) rfl (by kernel_rfl)) (digsOf_at s _ (v := (.slice A s.length c)) (n := s.length) d24) ?_)
  rintro _ w31 ⟨A25, c26, rfl, hf27, hx32⟩
  have z28 := (Fl.cel hf27).2.1; have z30 := digsOf_len s
  refine ⟨_, rfl, ?_⟩; intro a33 hF34; clear hF23; have z35 := hx32.size
  have hf36 : Fl (Clip (fun b => w14.heap.size ≤ b) w31) w31 32 (.slice A25 ((digsOf s).length) c26) ((digsOf s).length) (digVals (digsOf s)) := hf27.clip
  refine wpl_op (i := 2) rfl (o_val (v := (.slice A25 ((digsOf s).length) c26)) hF34 rfl rfl rfl rfl (rn_assign (hF34.get rfl)) ?_)
  intro a37 hF38; clear hF34
  refine wpList_nil ?_
  refine hK21 _ _ ?_
  clear hK21
  refine wp_seq_k (fun K39 hK39 => ?_)
  refine wp_seq_k (fun K40 hK40 => ?_)
  refine wp_region_lit ?_
  refine wpl_op (i := 0) rfl (o_val (v := (.slice A25 ((digsOf s).length) c26)) hF38 rfl rfl rfl rfl (rn_move (hF38.get rfl)) ?_)
  intro a41 hF42; clear hF38
  have hf43 := hf36
  refine wpl_op (i := 1) rfl (o_call hF42 rfl rfl rfl rfl (rn_call (args1 (hF42.get rfl)) rfl (by kernel_rfl)) (tree_at (digsOf s) _ (n := (digsOf s).length) (v := (.slice A25 ((digsOf s).length) c26)) (digsOf_32 _) hf43 (hG.ext ((((Ext.refl w).trans hx5).trans hx15).trans hx32))) ?_)
  rintro _ w44 ⟨rfl, hx45⟩
  refine ⟨_, rfl, ?_⟩; intro a46 hF47; clear hF42; have z48 := hx45.size
  refine wpl_op (i := 2) rfl (o_val (v := (.slice A25 ((digsOf s).length) c26)) hF47 rfl rfl rfl rfl (rn_move (hF47.get rfl)) ?_)
  intro a49 hF50; clear hF47
  have d51 := (hf36.ext hx45)
  have hf52 := d51
  refine wpl_op (i := 3) rfl (o_call hF50 rfl rfl rfl rfl (rn_call (args1 (hF50.get rfl)) rfl (by kernel_rfl)) (rtree_at (digsOf s) _ (n := (digsOf s).length) (v := (.slice A25 ((digsOf s).length) c26)) (digsOf_32 _) hf52 (by omega)) ?_)
  rintro _ w53 ⟨rfl, hx54⟩
  refine ⟨_, rfl, ?_⟩; intro a55 hF56; clear hF50; have z57 := hx54.size
  refine wpl_op (i := 4) rfl (o_val (v := (.bool (!decide (treeD (digsOf s) = treeD (digsOf s))))) hF56 rfl rfl rfl rfl (rn_neA Tryd.underlying26 Tryd.underlying5 (by kernel_rfl : (Tryd.prog.info? 5).map (·.size) = some 1) (by kernel_rfl) (hF56.get rfl) (hF56.get rfl) (treeD_len _) (treeD_len _)) ?_)
  intro a58 hF59; clear hF56
  refine wpList_nil ?_
  refine hK40 _ _ ?_
  clear hK40
  have hF60 := (((((((((hF59.nil.cons (hF59.get (t := 32) (v := (.bool (!decide (treeD (digsOf s) = treeD (digsOf s))))) rfl)).cons (hF59.get (t := 9) (v := (.slice A25 ((digsOf s).length) c26)) rfl)).cons (hF59.get (t := 25) (v := (.bool false)) rfl)).cons (hF59.get (t := 8) (v := (.bool false)) rfl)).cons (hF59.get (t := 7) (v := (.pointer (some ⟨g2, 0, none⟩))) rfl)).cons (hF59.get (t := 3) (v := (.agg (byteVals d).toArray)) rfl)).cons (hF59.get (t := 2) (v := (.int .i64 n)) rfl)).cons (hF59.get (t := 1) (v := (.int .i64 at_)) rfl)).cons (hF59.get (t := 0) (v := (.slice A s.length c)) rfl))
  clear hF59
  refine wp_cond_false (c_false hF60 rfl (not_t ((decide_eq_true rfl) : decide (treeD (digsOf s) = treeD (digsOf s)) = true))) ?_
  refine wp_skip ?_
  refine hK39 _ _ ?_
  clear hK39
  refine wp_seq_k (fun K62 hK62 => ?_)
  refine wp_seq_k (fun K63 hK63 => ?_)
  refine wp_region_lit ?_
  refine wpl_op (i := 0) rfl (o_val (v := (.int .i64 at_)) hF60 rfl rfl rfl rfl (rn_move (hF60.get rfl)) ?_)
  intro a64 hF65; clear hF60
  refine wpl_op (i := 1) rfl (o_val (v := (.int .i64 at_)) hF65 rfl rfl rfl rfl (rn_move (hF65.get rfl)) ?_)
  intro a66 hF67; clear hF65
  refine wpl_op (i := 2) rfl (o_val (v := (.int .i64 (andI (at_) (15)))) hF67 rfl rfl rfl rfl (rn_andI (hF67.get rfl) rfl) ?_)
  intro a68 hF69; clear hF67
  refine wpl_op (i := 3) rfl (o_new (fun g => (.slice (some ⟨g, 0, none⟩) 2 2)) (intVals [(at_ : Int), ((andI (at_) (15)) : Int)]) 3 hF69 rfl rfl rfl rfl (rn_buildSlice (parts2 (hF69.get rfl) (hF69.get rfl)) (by kernel_rfl)) ?_)
  intro g70 w71 a76 hF77 z74 z75 b72 hx73; clear hF69
  refine wpl_op (i := 4) rfl (o_val (v := (.int .i64 2)) hF77 rfl rfl rfl rfl (rn_len_slice Tryd.underlying33 (hF77.get rfl)) ?_)
  intro a78 hF79; clear hF77
  refine wpl_op (i := 5) rfl (o_val (v := (.int .i64 0)) hF79 rfl rfl rfl rfl (rn_move rfl) ?_)
  intro a80 hF81; clear hF79
  refine wpList_nil ?_
  refine hK63 _ _ ?_
  clear hK63
  refine wp_block ?_
  have d82 := (((hf36.ext hx45).ext hx54).ext hx73)
  have b83 : Blk w71 g2 26 (byteVals d) := (((((b4.ext hx15).ext hx32).ext hx45).ext hx54).ext hx73)
  refine wp_loop (fun a' W => ∃ (k1 : Nat), Sl 117 [(0, (.slice A s.length c)), (1, (.int .i64 at_)), (2, (.int .i64 n)), (3, (.agg (byteVals d).toArray)), (7, (.pointer (some ⟨g2, 0, none⟩))), (8, (.bool false)), (25, (.bool false)), (9, (.slice A25 ((digsOf s).length) c26)), (32, (.bool (!decide (treeD (digsOf s) = treeD (digsOf s))))), (36, (.slice (some ⟨g70, 0, none⟩) 2 2)), (37, (.int .i64 2)), (38, (.int .i64 (k1 : Nat)))] a' ∧ k1 ≤ 2 ∧ Ext w W ∧ Blk W g2 26 (byteVals d) ∧ Blk W g70 3 (intVals [(at_ : Int), ((andI (at_) (15)) : Int)]) ∧ Fl (Clip (fun b => w14.heap.size ≤ b) w31) W 32 (.slice A25 ((digsOf s).length) c26) ((digsOf s).length) (digVals (digsOf s)) ∧ w71.heap.size ≤ W.heap.size) (fun a' _ => 2 - (intOf (a'.eval (.tmp 38))).toNat) ⟨0, ((((((((((((hF81.nil.cons (q_get hF81 (t := 38) rfl (by first | rfl | (congr 1; omega) | (congr 1; done)))).cons (q_get hF81 (t := 37) rfl rfl)).cons (q_get hF81 (t := 36) rfl rfl)).cons (q_get hF81 (t := 32) rfl rfl)).cons (q_get hF81 (t := 9) rfl rfl)).cons (q_get hF81 (t := 25) rfl rfl)).cons (q_get hF81 (t := 8) rfl rfl)).cons (q_get hF81 (t := 7) rfl rfl)).cons (q_get hF81 (t := 3) rfl rfl)).cons (q_get hF81 (t := 2) rfl rfl)).cons (q_get hF81 (t := 1) rfl rfl)).cons (q_get hF81 (t := 0) rfl rfl)), (by omega), (((((((Ext.refl w).trans hx5).trans hx15).trans hx32).trans hx45).trans hx54).trans hx73), b83, b72, d82, (Nat.le_refl _)⟩ ?_
  clear hF81
  rintro a84 w85 ⟨k1, hF86, hp88, hx87, b89, b90, hf91, hf92⟩
  have hL93 := hF86
  have z94 := hx87.size
  have z95 := b89.lt
  have z96 := b90.lt
  refine wp_seq_k (fun K97 hK97 => ?_)
  refine wp_region_lit ?_
  refine wpl_op (i := 0) rfl (o_val (v := (.bool (decide (((k1 : Nat) : Int) < (2 : Int))))) hF86 rfl rfl rfl rfl (rn_lss (hF86.get rfl) (hF86.get rfl)) ?_)
  intro a98 hF99; clear hF86
  refine wpList_nil ?_
  refine hK97 _ _ ?_
  clear hK97
  refine wp_seq_k (fun K100 hK100 => ?_)
  by_cases hc101 : ((k1 : Nat) : Int) < (2 : Int)
  · skip
    refine wp_cond_true (c_true hF99 rfl (decide_eq_true hc101)) ?_
    refine wp_skip ?_
    refine hK100 _ _ ?_
    clear hK100
    refine wp_seq_k (fun K102 hK102 => ?_)
    refine wp_block ?_
    refine wp_seq_k (fun K103 hK103 => ?_)
    refine wp_region_lit ?_
    refine wpl_op (i := 0) rfl (o_val (v := (.pointer (some ⟨g70, 0 + k1, none⟩))) hF99 rfl rfl rfl rfl (rn_index1 Tryd.underlying33 (by kernel_rfl : (Tryd.prog.info? 3).map (·.size) = some 1) (hF99.get rfl) (hF99.get rfl) (by omega : (0 : Int) ≤ (k1 : Nat)) (by omega : ((k1 : Nat) : Int) < ((2 : Nat) : Int))) ?_)
    intro a104 hF105; clear hF99
    refine wpl_op (i := 1) rfl (o_val (v := (.int .i64 (([(at_ : Int), ((andI (at_) (15)) : Int)]).getD k1 0))) hF105 rfl rfl rfl rfl (rn_load (isAgg_no Tryd.underlying3 rfl) (hF105.get rfl) (blk_intVals b90 (by omega) (by have := (show List.length ([(at_ : Int), ((andI (at_) (15)) : Int)]) = _ from (show List.length [(at_ : Int), ((andI (at_) (15)) : Int)] = 2 from rfl)); omega))) ?_)
    intro a106 hF107; clear hF105
    refine wpl_op (i := 2) rfl (o_val (v := (.int .i64 (([(at_ : Int), ((andI (at_) (15)) : Int)]).getD k1 0))) hF107 rfl rfl rfl rfl (rn_assign (hF107.get rfl)) ?_)
    intro a108 hF109; clear hF107
    refine wpList_nil ?_
    refine hK103 _ _ ?_
    clear hK103
    refine wp_seq_k (fun K110 hK110 => ?_)
    refine wp_region_lit ?_
    refine wpl_op (i := 0) rfl (o_val (v := (.slice A25 ((digsOf s).length) c26)) hF109 rfl rfl rfl rfl (rn_move (hF109.get rfl)) ?_)
    intro a111 hF112; clear hF109
    refine wpl_op (i := 1) rfl (o_val (v := (.int .i64 (([(at_ : Int), ((andI (at_) (15)) : Int)]).getD k1 0))) hF112 rfl rfl rfl rfl (rn_move (hF112.get rfl)) ?_)
    intro a113 hF114; clear hF112
    refine wpl_op (i := 2) rfl (o_call hF114 rfl rfl rfl rfl (rn_call (args2 (hF114.get rfl) (hF114.get rfl)) rfl (by kernel_rfl)) (path_at (digsOf s) (([(at_ : Int), ((andI (at_) (15)) : Int)]).getD k1 0) _ (v := (.slice A25 ((digsOf s).length) c26)) (n := (digsOf s).length) (digsOf_32 _) hf91 (hG.ext ((Ext.refl w).trans hx87)) (by omega)) ?_)
    rintro _ w123 ⟨A115, n116, c117, rfl, hf118, h32119, hx124⟩
    have z120 := (Fl.cel hf118).2.1
    have z121 := Fl.dlen hf118 h32119
    have z122 := pathF_len (digsOf s) (([(at_ : Int), ((andI (at_) (15)) : Int)]).getD k1 0)
    refine ⟨_, rfl, ?_⟩; intro a125 hF126; clear hF114; have z127 := hx124.size
    have hf128 : Fl (Clip (fun b => w85.heap.size ≤ b) w123) w123 32 (.slice A115 n116 c117) n116 (digVals ((pathF (digsOf s) ((([(at_ : Int), ((andI (at_) (15)) : Int)]).getD k1 0))).1)) := hf118.clip
    refine wpl_op (i := 3) rfl (o_val (v := (.tuple #[(.slice A115 n116 c117), (.int .i64 ((pathF (digsOf s) ((([(at_ : Int), ((andI (at_) (15)) : Int)]).getD k1 0))).2))])) hF126 rfl rfl rfl rfl (rn_move (hF126.get rfl)) ?_)
    intro a129 hF130; clear hF126
    refine wpl_op (i := 4) rfl (o_val (v := (.slice A115 n116 c117)) hF130 rfl rfl rfl rfl (rn_extract (hF130.get rfl) rfl) ?_)
    intro a131 hF132; clear hF130
    refine wpl_op (i := 5) rfl (o_val (v := (.int .i64 ((pathF (digsOf s) ((([(at_ : Int), ((andI (at_) (15)) : Int)]).getD k1 0))).2))) hF132 rfl rfl rfl rfl (rn_extract (hF132.get rfl) rfl) ?_)
    intro a133 hF134; clear hF132
    refine wpl_op (i := 6) rfl (o_val (v := (.slice A115 n116 c117)) hF134 rfl rfl rfl rfl (rn_assign (hF134.get rfl)) ?_)
    intro a135 hF136; clear hF134
    refine wpl_op (i := 7) rfl (o_val (v := (.int .i64 ((pathF (digsOf s) ((([(at_ : Int), ((andI (at_) (15)) : Int)]).getD k1 0))).2))) hF136 rfl rfl rfl rfl (rn_assign (hF136.get rfl)) ?_)
    intro a137 hF138; clear hF136
    refine wpList_nil ?_
    refine hK110 _ _ ?_
    clear hK110
    have hF139 := ((((((((((((((((hF138.nil.cons (hF138.get (t := 13) (v := (.int .i64 ((pathF (digsOf s) ((([(at_ : Int), ((andI (at_) (15)) : Int)]).getD k1 0))).2))) rfl)).cons (hF138.get (t := 12) (v := (.slice A115 n116 c117)) rfl)).cons (hF138.get (t := 11) (v := (.int .i64 (([(at_ : Int), ((andI (at_) (15)) : Int)]).getD k1 0))) rfl)).cons (hF138.get (t := 39) (v := (.bool (decide (((k1 : Nat) : Int) < (2 : Int))))) rfl)).cons (hF138.get (t := 38) (v := (.int .i64 (k1 : Nat))) rfl)).cons (hF138.get (t := 37) (v := (.int .i64 2)) rfl)).cons (hF138.get (t := 36) (v := (.slice (some ⟨g70, 0, none⟩) 2 2)) rfl)).cons (hF138.get (t := 32) (v := (.bool (!decide (treeD (digsOf s) = treeD (digsOf s))))) rfl)).cons (hF138.get (t := 9) (v := (.slice A25 ((digsOf s).length) c26)) rfl)).cons (hF138.get (t := 25) (v := (.bool false)) rfl)).cons (hF138.get (t := 8) (v := (.bool false)) rfl)).cons (hF138.get (t := 7) (v := (.pointer (some ⟨g2, 0, none⟩))) rfl)).cons (hF138.get (t := 3) (v := (.agg (byteVals d).toArray)) rfl)).cons (hF138.get (t := 2) (v := (.int .i64 n)) rfl)).cons (hF138.get (t := 1) (v := (.int .i64 at_)) rfl)).cons (hF138.get (t := 0) (v := (.slice A s.length c)) rfl))
    clear hF138
    refine wp_seq_k (fun K140 hK140 => ?_)
    refine wp_region_lit ?_
    refine wpl_op (i := 0) rfl (o_val (v := (.slice A25 ((digsOf s).length) c26)) hF139 rfl rfl rfl rfl (rn_move (hF139.get rfl)) ?_)
    intro a141 hF142; clear hF139
    refine wpl_op (i := 1) rfl (o_val (v := (.int .i64 (([(at_ : Int), ((andI (at_) (15)) : Int)]).getD k1 0))) hF142 rfl rfl rfl rfl (rn_move (hF142.get rfl)) ?_)
    intro a143 hF144; clear hF142
    have d145 := (hf91.ext hx124)
    refine wpl_op (i := 2) rfl (o_call hF144 rfl rfl rfl rfl (rn_call (args2 (hF144.get rfl) (hF144.get rfl)) rfl (by kernel_rfl)) (rPath_at (digsOf s) (([(at_ : Int), ((andI (at_) (15)) : Int)]).getD k1 0) _ (v := (.slice A25 ((digsOf s).length) c26)) (n := (digsOf s).length) (digsOf_32 _) d145 (by omega)) ?_)
    rintro _ w154 ⟨A146, n147, c148, rfl, hf149, h32150, hx155⟩
    have z151 := (Fl.cel hf149).2.1
    have z152 := Fl.dlen hf149 h32150
    have z153 := pathF_len (digsOf s) (([(at_ : Int), ((andI (at_) (15)) : Int)]).getD k1 0)
    refine ⟨_, rfl, ?_⟩; intro a156 hF157; clear hF144; have z158 := hx155.size
    have hf159 : Fl (Clip (fun b => w123.heap.size ≤ b) w154) w154 32 (.slice A146 n147 c148) n147 (digVals ((pathF (digsOf s) ((([(at_ : Int), ((andI (at_) (15)) : Int)]).getD k1 0))).1)) := hf149.clip
    refine wpl_op (i := 3) rfl (o_val (v := (.tuple #[(.slice A146 n147 c148), (.int .i64 ((pathF (digsOf s) ((([(at_ : Int), ((andI (at_) (15)) : Int)]).getD k1 0))).2))])) hF157 rfl rfl rfl rfl (rn_move (hF157.get rfl)) ?_)
    intro a160 hF161; clear hF157
    refine wpl_op (i := 4) rfl (o_val (v := (.slice A146 n147 c148)) hF161 rfl rfl rfl rfl (rn_extract (hF161.get rfl) rfl) ?_)
    intro a162 hF163; clear hF161
    refine wpl_op (i := 5) rfl (o_val (v := (.int .i64 ((pathF (digsOf s) ((([(at_ : Int), ((andI (at_) (15)) : Int)]).getD k1 0))).2))) hF163 rfl rfl rfl rfl (rn_extract (hF163.get rfl) rfl) ?_)
    intro a164 hF165; clear hF163
    refine wpl_op (i := 6) rfl (o_val (v := (.slice A146 n147 c148)) hF165 rfl rfl rfl rfl (rn_assign (hF165.get rfl)) ?_)
    intro a166 hF167; clear hF165
    refine wpl_op (i := 7) rfl (o_val (v := (.int .i64 ((pathF (digsOf s) ((([(at_ : Int), ((andI (at_) (15)) : Int)]).getD k1 0))).2))) hF167 rfl rfl rfl rfl (rn_assign (hF167.get rfl)) ?_)
    intro a168 hF169; clear hF167
    refine wpList_nil ?_
    refine hK140 _ _ ?_
    clear hK140
    have hF170 := ((((((((((((((((((hF169.nil.cons (hF169.get (t := 15) (v := (.int .i64 ((pathF (digsOf s) ((([(at_ : Int), ((andI (at_) (15)) : Int)]).getD k1 0))).2))) rfl)).cons (hF169.get (t := 14) (v := (.slice A146 n147 c148)) rfl)).cons (hF169.get (t := 13) (v := (.int .i64 ((pathF (digsOf s) ((([(at_ : Int), ((andI (at_) (15)) : Int)]).getD k1 0))).2))) rfl)).cons (hF169.get (t := 12) (v := (.slice A115 n116 c117)) rfl)).cons (hF169.get (t := 11) (v := (.int .i64 (([(at_ : Int), ((andI (at_) (15)) : Int)]).getD k1 0))) rfl)).cons (hF169.get (t := 39) (v := (.bool (decide (((k1 : Nat) : Int) < (2 : Int))))) rfl)).cons (hF169.get (t := 38) (v := (.int .i64 (k1 : Nat))) rfl)).cons (hF169.get (t := 37) (v := (.int .i64 2)) rfl)).cons (hF169.get (t := 36) (v := (.slice (some ⟨g70, 0, none⟩) 2 2)) rfl)).cons (hF169.get (t := 32) (v := (.bool (!decide (treeD (digsOf s) = treeD (digsOf s))))) rfl)).cons (hF169.get (t := 9) (v := (.slice A25 ((digsOf s).length) c26)) rfl)).cons (hF169.get (t := 25) (v := (.bool false)) rfl)).cons (hF169.get (t := 8) (v := (.bool false)) rfl)).cons (hF169.get (t := 7) (v := (.pointer (some ⟨g2, 0, none⟩))) rfl)).cons (hF169.get (t := 3) (v := (.agg (byteVals d).toArray)) rfl)).cons (hF169.get (t := 2) (v := (.int .i64 n)) rfl)).cons (hF169.get (t := 1) (v := (.int .i64 at_)) rfl)).cons (hF169.get (t := 0) (v := (.slice A s.length c)) rfl))
    clear hF169
    refine wp_seq_k (fun K171 hK171 => ?_)
    refine wp_seq_k (fun K172 hK172 => ?_)
    refine wp_region_lit ?_
    refine wpl_op (i := 0) rfl (o_val (v := (.slice A115 n116 c117)) hF170 rfl rfl rfl rfl (rn_move (hF170.get rfl)) ?_)
    intro a173 hF174; clear hF170
    refine wpl_op (i := 1) rfl (o_val (v := (.slice A146 n147 c148)) hF174 rfl rfl rfl rfl (rn_move (hF174.get rfl)) ?_)
    intro a175 hF176; clear hF174
    have d177 := (hf128.ext hx155)
    refine wpl_op (i := 2) rfl (o_call hF176 rfl rfl rfl rfl (rn_call (args2 (hF176.get rfl) (hF176.get rfl)) rfl (by kernel_rfl)) (rsame_at ((pathF (digsOf s) ((([(at_ : Int), ((andI (at_) (15)) : Int)]).getD k1 0))).1) ((pathF (digsOf s) ((([(at_ : Int), ((andI (at_) (15)) : Int)]).getD k1 0))).1) _ (pathF_32 (digsOf s) (([(at_ : Int), ((andI (at_) (15)) : Int)]).getD k1 0)) (pathF_32 (digsOf s) (([(at_ : Int), ((andI (at_) (15)) : Int)]).getD k1 0)) d177 hf159) ?_)
    rintro _ w178 ⟨rfl, hx179⟩
    refine ⟨_, rfl, ?_⟩; intro a180 hF181; clear hF176; have z182 := hx179.size
    refine wpl_op (i := 3) rfl (o_val (v := (.bool (!(decide ((pathF (digsOf s) ((([(at_ : Int), ((andI (at_) (15)) : Int)]).getD k1 0))).1 = (pathF (digsOf s) ((([(at_ : Int), ((andI (at_) (15)) : Int)]).getD k1 0))).1))))) hF181 rfl rfl rfl rfl (rn_not' (hF181.get rfl) rfl) ?_)
    intro a183 hF184; clear hF181
    refine wpl_op (i := 4) rfl (o_val (v := (.bool (!(decide ((pathF (digsOf s) ((([(at_ : Int), ((andI (at_) (15)) : Int)]).getD k1 0))).1 = (pathF (digsOf s) ((([(at_ : Int), ((andI (at_) (15)) : Int)]).getD k1 0))).1))))) hF184 rfl rfl rfl rfl (rn_move (hF184.get rfl)) ?_)
    intro a185 hF186; clear hF184
    refine wpl_op (i := 5) rfl (o_val (v := (.int .i64 ((pathF (digsOf s) ((([(at_ : Int), ((andI (at_) (15)) : Int)]).getD k1 0))).2))) hF186 rfl (wanted_guard rfl rfl rfl hF186 rfl (not_t ((decide_eq_true rfl) : decide ((pathF (digsOf s) ((([(at_ : Int), ((andI (at_) (15)) : Int)]).getD k1 0))).1 = (pathF (digsOf s) ((([(at_ : Int), ((andI (at_) (15)) : Int)]).getD k1 0))).1) = true)) rfl) rfl rfl (rn_move (hF186.get rfl)) ?_)
    intro a188 hF189; clear hF186
    refine wpl_op (i := 6) rfl (o_val (v := (.int .i64 ((pathF (digsOf s) ((([(at_ : Int), ((andI (at_) (15)) : Int)]).getD k1 0))).2))) hF189 rfl (wanted_guard rfl rfl rfl hF189 rfl (not_t ((decide_eq_true rfl) : decide ((pathF (digsOf s) ((([(at_ : Int), ((andI (at_) (15)) : Int)]).getD k1 0))).1 = (pathF (digsOf s) ((([(at_ : Int), ((andI (at_) (15)) : Int)]).getD k1 0))).1) = true)) rfl) rfl rfl (rn_move (hF189.get rfl)) ?_)
    intro a190 hF191; clear hF189
    refine wpl_op (i := 7) rfl (o_val (v := (.bool (decide (((pathF (digsOf s) ((([(at_ : Int), ((andI (at_) (15)) : Int)]).getD k1 0))).2 : Int) ≠ ((pathF (digsOf s) ((([(at_ : Int), ((andI (at_) (15)) : Int)]).getD k1 0))).2 : Int))))) hF191 rfl (wanted_guard rfl rfl rfl hF191 rfl (not_t ((decide_eq_true rfl) : decide ((pathF (digsOf s) ((([(at_ : Int), ((andI (at_) (15)) : Int)]).getD k1 0))).1 = (pathF (digsOf s) ((([(at_ : Int), ((andI (at_) (15)) : Int)]).getD k1 0))).1) = true)) rfl) rfl rfl (rn_neq (hF191.get rfl) (hF191.get rfl)) ?_)
    intro a192 hF193; clear hF191
    refine wpl_op (i := 8) rfl (o_val (v := (.bool (decide (((pathF (digsOf s) ((([(at_ : Int), ((andI (at_) (15)) : Int)]).getD k1 0))).2 : Int) ≠ ((pathF (digsOf s) ((([(at_ : Int), ((andI (at_) (15)) : Int)]).getD k1 0))).2 : Int))))) hF193 rfl rfl rfl rfl (rn_pickF (c_false hF193 rfl (not_t ((decide_eq_true rfl) : decide ((pathF (digsOf s) ((([(at_ : Int), ((andI (at_) (15)) : Int)]).getD k1 0))).1 = (pathF (digsOf s) ((([(at_ : Int), ((andI (at_) (15)) : Int)]).getD k1 0))).1) = true))) (hF193.get rfl)) ?_)
    intro a194 hF195; clear hF193
    refine wpList_nil ?_
    refine hK172 _ _ ?_
    clear hK172
    have hF196 := (((((((((((((((((((hF195.nil.cons (hF195.get (t := 62) (v := (.bool (decide (((pathF (digsOf s) ((([(at_ : Int), ((andI (at_) (15)) : Int)]).getD k1 0))).2 : Int) ≠ ((pathF (digsOf s) ((([(at_ : Int), ((andI (at_) (15)) : Int)]).getD k1 0))).2 : Int))))) rfl)).cons (hF195.get (t := 15) (v := (.int .i64 ((pathF (digsOf s) ((([(at_ : Int), ((andI (at_) (15)) : Int)]).getD k1 0))).2))) rfl)).cons (hF195.get (t := 14) (v := (.slice A146 n147 c148)) rfl)).cons (hF195.get (t := 13) (v := (.int .i64 ((pathF (digsOf s) ((([(at_ : Int), ((andI (at_) (15)) : Int)]).getD k1 0))).2))) rfl)).cons (hF195.get (t := 12) (v := (.slice A115 n116 c117)) rfl)).cons (hF195.get (t := 11) (v := (.int .i64 (([(at_ : Int), ((andI (at_) (15)) : Int)]).getD k1 0))) rfl)).cons (hF195.get (t := 39) (v := (.bool (decide (((k1 : Nat) : Int) < (2 : Int))))) rfl)).cons (hF195.get (t := 38) (v := (.int .i64 (k1 : Nat))) rfl)).cons (hF195.get (t := 37) (v := (.int .i64 2)) rfl)).cons (hF195.get (t := 36) (v := (.slice (some ⟨g70, 0, none⟩) 2 2)) rfl)).cons (hF195.get (t := 32) (v := (.bool (!decide (treeD (digsOf s) = treeD (digsOf s))))) rfl)).cons (hF195.get (t := 9) (v := (.slice A25 ((digsOf s).length) c26)) rfl)).cons (hF195.get (t := 25) (v := (.bool false)) rfl)).cons (hF195.get (t := 8) (v := (.bool false)) rfl)).cons (hF195.get (t := 7) (v := (.pointer (some ⟨g2, 0, none⟩))) rfl)).cons (hF195.get (t := 3) (v := (.agg (byteVals d).toArray)) rfl)).cons (hF195.get (t := 2) (v := (.int .i64 n)) rfl)).cons (hF195.get (t := 1) (v := (.int .i64 at_)) rfl)).cons (hF195.get (t := 0) (v := (.slice A s.length c)) rfl))
    clear hF195
    refine wp_cond_false (c_false hF196 rfl ((decide_eq_false (by simp)) : decide (((pathF (digsOf s) ((([(at_ : Int), ((andI (at_) (15)) : Int)]).getD k1 0))).2 : Int) ≠ ((pathF (digsOf s) ((([(at_ : Int), ((andI (at_) (15)) : Int)]).getD k1 0))).2 : Int)) = false)) ?_
    refine wp_skip ?_
    refine hK171 _ _ ?_
    clear hK171
    refine wp_seq_k (fun K198 hK198 => ?_)
    refine wp_region_lit ?_
    refine wpl_op (i := 0) rfl (o_val (v := (.int .i64 n)) hF196 rfl rfl rfl rfl (rn_move (hF196.get rfl)) ?_)
    intro a199 hF200; clear hF196
    refine wpl_op (i := 1) rfl (o_val (v := (.slice A25 ((digsOf s).length) c26)) hF200 rfl rfl rfl rfl (rn_move (hF200.get rfl)) ?_)
    intro a201 hF202; clear hF200
    refine wpl_op (i := 2) rfl (o_val (v := (.int .i64 ((digsOf s).length : Nat))) hF202 rfl rfl rfl rfl (rn_len_slice Tryd.underlying30 (hF202.get rfl)) ?_)
    intro a203 hF204; clear hF202
    refine wpl_op (i := 3) rfl (o_new (fun g => (.slice (some ⟨g, 0, none⟩) 2 2)) (intVals [(n : Int), (((digsOf s).length : Nat) : Int)]) 3 hF204 rfl rfl rfl rfl (rn_buildSlice (parts2 (hF204.get rfl) (hF204.get rfl)) (by kernel_rfl)) ?_)
    intro g205 w206 a211 hF212 z209 z210 b207 hx208; clear hF204
    refine wpl_op (i := 4) rfl (o_val (v := (.int .i64 2)) hF212 rfl rfl rfl rfl (rn_len_slice Tryd.underlying33 (hF212.get rfl)) ?_)
    intro a213 hF214; clear hF212
    refine wpl_op (i := 5) rfl (o_val (v := (.int .i64 0)) hF214 rfl rfl rfl rfl (rn_move rfl) ?_)
    intro a215 hF216; clear hF214
    refine wpList_nil ?_
    refine hK198 _ _ ?_
    clear hK198
    refine wp_block ?_
    have d217 := ((((hf91.ext hx124).ext hx155).ext hx179).ext hx208)
    have d218 := (((hf128.ext hx155).ext hx179).ext hx208)
    have d219 := ((hf159.ext hx179).ext hx208)
    have b220 : Blk w206 g2 26 (byteVals d) := ((((b89.ext hx124).ext hx155).ext hx179).ext hx208)
    have b221 : Blk w206 g70 3 (intVals [(at_ : Int), ((andI (at_) (15)) : Int)]) := ((((b90.ext hx124).ext hx155).ext hx179).ext hx208)
    refine wp_loop (fun a' W => ∃ (k2 : Nat), Sl 117 [(0, (.slice A s.length c)), (1, (.int .i64 at_)), (2, (.int .i64 n)), (3, (.agg (byteVals d).toArray)), (7, (.pointer (some ⟨g2, 0, none⟩))), (8, (.bool false)), (25, (.bool false)), (9, (.slice A25 ((digsOf s).length) c26)), (32, (.bool (!decide (treeD (digsOf s) = treeD (digsOf s))))), (36, (.slice (some ⟨g70, 0, none⟩) 2 2)), (37, (.int .i64 2)), (38, (.int .i64 (k1 : Nat))), (39, (.bool (decide (((k1 : Nat) : Int) < (2 : Int))))), (11, (.int .i64 (([(at_ : Int), ((andI (at_) (15)) : Int)]).getD k1 0))), (12, (.slice A115 n116 c117)), (13, (.int .i64 ((pathF (digsOf s) ((([(at_ : Int), ((andI (at_) (15)) : Int)]).getD k1 0))).2))), (14, (.slice A146 n147 c148)), (15, (.int .i64 ((pathF (digsOf s) ((([(at_ : Int), ((andI (at_) (15)) : Int)]).getD k1 0))).2))), (62, (.bool (decide (((pathF (digsOf s) ((([(at_ : Int), ((andI (at_) (15)) : Int)]).getD k1 0))).2 : Int) ≠ ((pathF (digsOf s) ((([(at_ : Int), ((andI (at_) (15)) : Int)]).getD k1 0))).2 : Int))))), (66, (.slice (some ⟨g205, 0, none⟩) 2 2)), (67, (.int .i64 2)), (68, (.int .i64 (k2 : Nat)))] a' ∧ k2 ≤ 2 ∧ Ext w W ∧ Blk W g2 26 (byteVals d) ∧ Blk W g70 3 (intVals [(at_ : Int), ((andI (at_) (15)) : Int)]) ∧ Blk W g205 3 (intVals [(n : Int), (((digsOf s).length : Nat) : Int)]) ∧ Fl (Clip (fun b => w14.heap.size ≤ b) w31) W 32 (.slice A25 ((digsOf s).length) c26) ((digsOf s).length) (digVals (digsOf s)) ∧ Fl (Clip (fun b => w85.heap.size ≤ b) w123) W 32 (.slice A115 n116 c117) n116 (digVals ((pathF (digsOf s) ((([(at_ : Int), ((andI (at_) (15)) : Int)]).getD k1 0))).1)) ∧ Fl (Clip (fun b => w123.heap.size ≤ b) w154) W 32 (.slice A146 n147 c148) n147 (digVals ((pathF (digsOf s) ((([(at_ : Int), ((andI (at_) (15)) : Int)]).getD k1 0))).1)) ∧ w206.heap.size ≤ W.heap.size) (fun a' _ => 2 - (intOf (a'.eval (.tmp 68))).toNat) ⟨0, ((((((((((((((((((((((hF216.nil.cons (q_get hF216 (t := 68) rfl (by first | rfl | (congr 1; omega) | (congr 1; done)))).cons (q_get hF216 (t := 67) rfl rfl)).cons (q_get hF216 (t := 66) rfl rfl)).cons (q_get hF216 (t := 62) rfl rfl)).cons (q_get hF216 (t := 15) rfl rfl)).cons (q_get hF216 (t := 14) rfl rfl)).cons (q_get hF216 (t := 13) rfl rfl)).cons (q_get hF216 (t := 12) rfl rfl)).cons (q_get hF216 (t := 11) rfl rfl)).cons (q_get hF216 (t := 39) rfl rfl)).cons (q_get hF216 (t := 38) rfl rfl)).cons (q_get hF216 (t := 37) rfl rfl)).cons (q_get hF216 (t := 36) rfl rfl)).cons (q_get hF216 (t := 32) rfl rfl)).cons (q_get hF216 (t := 9) rfl rfl)).cons (q_get hF216 (t := 25) rfl rfl)).cons (q_get hF216 (t := 8) rfl rfl)).cons (q_get hF216 (t := 7) rfl rfl)).cons (q_get hF216 (t := 3) rfl rfl)).cons (q_get hF216 (t := 2) rfl rfl)).cons (q_get hF216 (t := 1) rfl rfl)).cons (q_get hF216 (t := 0) rfl rfl)), (by omega), ((((((Ext.refl w).trans hx87).trans hx124).trans hx155).trans hx179).trans hx208), b220, b221, b207, d217, d218, d219, (Nat.le_refl _)⟩ ?_
    clear hF216
    rintro a222 w223 ⟨k2, hF224, hp226, hx225, b227, b228, b229, hf230, hf231, hf232, hf233⟩
    have hL234 := hF224
    have z235 := hx225.size
    have z236 := b227.lt
    have z237 := b228.lt
    have z238 := b229.lt
    refine wp_seq_k (fun K239 hK239 => ?_)
    refine wp_region_lit ?_
    refine wpl_op (i := 0) rfl (o_val (v := (.bool (decide (((k2 : Nat) : Int) < (2 : Int))))) hF224 rfl rfl rfl rfl (rn_lss (hF224.get rfl) (hF224.get rfl)) ?_)
    intro a240 hF241; clear hF224
    refine wpList_nil ?_
    refine hK239 _ _ ?_
    clear hK239
    refine wp_seq_k (fun K242 hK242 => ?_)
    by_cases hc243 : ((k2 : Nat) : Int) < (2 : Int)
    · skip
      refine wp_cond_true (c_true hF241 rfl (decide_eq_true hc243)) ?_
      refine wp_skip ?_
      refine hK242 _ _ ?_
      clear hK242
      refine wp_seq_k (fun K244 hK244 => ?_)
      refine wp_block ?_
      refine wp_seq_k (fun K245 hK245 => ?_)
      refine wp_region_lit ?_
      refine wpl_op (i := 0) rfl (o_val (v := (.pointer (some ⟨g205, 0 + k2, none⟩))) hF241 rfl rfl rfl rfl (rn_index1 Tryd.underlying33 (by kernel_rfl : (Tryd.prog.info? 3).map (·.size) = some 1) (hF241.get rfl) (hF241.get rfl) (by omega : (0 : Int) ≤ (k2 : Nat)) (by omega : ((k2 : Nat) : Int) < ((2 : Nat) : Int))) ?_)
      intro a246 hF247; clear hF241
      refine wpl_op (i := 1) rfl (o_val (v := (.int .i64 (([(n : Int), (((digsOf s).length : Nat) : Int)]).getD k2 0))) hF247 rfl rfl rfl rfl (rn_load (isAgg_no Tryd.underlying3 rfl) (hF247.get rfl) (blk_intVals b229 (by omega) (by have := (show List.length ([(n : Int), (((digsOf s).length : Nat) : Int)]) = _ from (show List.length [(n : Int), (((digsOf s).length : Nat) : Int)] = 2 from rfl)); omega))) ?_)
      intro a248 hF249; clear hF247
      refine wpl_op (i := 2) rfl (o_val (v := (.int .i64 (([(n : Int), (((digsOf s).length : Nat) : Int)]).getD k2 0))) hF249 rfl rfl rfl rfl (rn_assign (hF249.get rfl)) ?_)
      intro a250 hF251; clear hF249
      refine wpList_nil ?_
      refine hK245 _ _ ?_
      clear hK245
      refine wp_seq_k (fun K252 hK252 => ?_)
      have hx254 : ∃ W, w223.drew = W ∧ Ext w223 W := ⟨_, rfl, (Ext.refl _).drew⟩
      obtain ⟨w253, e255, hx254⟩ := hx254
      have z256 := hx254.size
      refine any_start (fun W => Ext w253 W ∧ Blk W g2 26 (byteVals d)) (fun i => false) 15 #[false, false, false, false, false, false, false, false, false, false, false, false, false, false, false] rfl rfl rfl ?_
      rw [e255]; clear e255
      refine any_have (n1 := 3) (L1 := #[true, true, true, true, true, true, false, true, true, true, true, true, false, false, true]) (fun a' W => ∃ (A325 : Option Addr) (c326 : Nat) (g313 : Nat), Sl 117 [(0, (.slice A s.length c)), (1, (.int .i64 at_)), (2, (.int .i64 n)), (3, (.agg (byteVals d).toArray)), (7, (.pointer (some ⟨g2, 0, none⟩))), (8, (.bool false)), (9, (.slice A25 ((digsOf s).length) c26)), (11, (.int .i64 (([(at_ : Int), ((andI (at_) (15)) : Int)]).getD k1 0))), (12, (.slice A115 n116 c117)), (13, (.int .i64 ((pathF (digsOf s) ((([(at_ : Int), ((andI (at_) (15)) : Int)]).getD k1 0))).2))), (14, (.slice A146 n147 c148)), (15, (.int .i64 ((pathF (digsOf s) ((([(at_ : Int), ((andI (at_) (15)) : Int)]).getD k1 0))).2))), (17, (.int .i64 (([(n : Int), (((digsOf s).length : Nat) : Int)]).getD k2 0))), (25, (.bool false)), (32, (.bool (!decide (treeD (digsOf s) = treeD (digsOf s))))), (36, (.slice (some ⟨g70, 0, none⟩) 2 2)), (37, (.int .i64 2)), (38, (.int .i64 (k1 : Nat))), (39, (.bool (decide (((k1 : Nat) : Int) < (2 : Int))))), (62, (.bool (decide (((pathF (digsOf s) ((([(at_ : Int), ((andI (at_) (15)) : Int)]).getD k1 0))).2 : Int) ≠ ((pathF (digsOf s) ((([(at_ : Int), ((andI (at_) (15)) : Int)]).getD k1 0))).2 : Int))))), (66, (.slice (some ⟨g205, 0, none⟩) 2 2)), (67, (.int .i64 2)), (68, (.int .i64 (k2 : Nat))), (69, (.bool (decide (((k2 : Nat) : Int) < (2 : Int))))), (72, (.slice A146 n147 c148)), (75, (.slice A325 (0 + n147) c326)), (77, (.slice (some ⟨g313, 0, none⟩) 1 1)), (83, (.slice A146 (n147 / 2) c148)), (86, (.int .i64 0))] a' ∧ Ext w253 W ∧ Blk W g313 26 (byteVals (d)) ∧ w253.heap.size ≤ g313 ∧ W.ownsRow w253.heap.size 26 32 (.slice A325 (0 + n147) c326) (0 + n147) (digVals ((pathF (digsOf s) ((([(at_ : Int), ((andI (at_) (15)) : Int)]).getD k1 0))).1)) ∧ some g313 ≠ (Value.slice A325 (0 + n147) c326).ownBlock) ?_ (fun st375 => ?_)
      · skip
        rintro a376 w377 ⟨A325, c326, g313, hF378, hx379, b380, z381, r382, nb383⟩
        clear hF251
        have z384 := hx379.size
        have z385 := b380.lt
        have z386 := own_form0 r382
        refine any_one (i := 6) (by decide +kernel) rfl ?_
        have hf395 := r382
        have b396 : Blk w377 g2 26 (byteVals d) := ((b227.ext hx254).ext hx379)
        have nb397 : some g2 ≠ (Value.slice A325 (0 + n147) c326).ownBlock := (own_ne r382 (by omega : g2 < w253.heap.size))
        have z398 := b396.lt
        have nb399 : some g313 ≠ (Value.slice A325 (0 + n147) c326).ownBlock := nb383
        have z400 := b380.lt
        refine o_appB (zs := digVals (((pathF (digsOf s) ((([(at_ : Int), ((andI (at_) (15)) : Int)]).getD k1 0))).1) ++ ([d]))) El30 hF378 rfl rfl rfl rfl rfl (hF378.get rfl) (hF378.get rfl) hf395 (Fl.cel (Fl.digblk (S := fun b => b = g313) b380 (All32.sing hd) (by simp [digVals, byteVals]))).2.2 (by omega) (by omega) (by omega) (digVals_app _ _) ?_
        intro A387 c388 w389 a401 hF402 r390 hg391 z392 z393 hnb394; clear hF378; have z403 := hg391.size
        have nb404 := hnb394 g2 (by omega) nb397
        have nb405 := hnb394 g313 (by omega) nb399
        have b406 : Blk w389 g2 26 (byteVals d) := (b396.grown hg391 nb397)
        refine ⟨fun _ _ => ⟨(ext_row ((Ext.refl w253).trans hx379) hg391 hf395 (by omega)), b406⟩, ?_⟩
        refine any_one (i := 12) (by decide +kernel) rfl ?_
        refine o_new (fun g => (.slice (some ⟨g, 0, none⟩) 3 3)) [(.slice A146 n147 c148), (.slice A387 ((0 + n147) + 1) c388), (.slice A146 (n147 / 2) c148)] 30 hF402 rfl rfl rfl rfl (rn_buildSlice (parts3 (hF402.get rfl) (hF402.get rfl) (hF402.get rfl)) (by kernel_rfl)) ?_
        intro g407 w408 a413 hF414 z411 z412 b409 hx410; clear hF402
        have b415 : Blk w408 g2 26 (byteVals d) := (b406.ext hx410)
        refine ⟨fun _ _ => ⟨((ext_row ((Ext.refl w253).trans hx379) hg391 hf395 (by omega)).trans hx410), b415⟩, ?_⟩
        refine any_pure (i := 13) (v := (.int .i64 3)) hF414 (by decide +kernel) (by decide +kernel) rfl rfl rfl rfl (fun _ _ _ _ h => h) rfl (fun W => (rn_len_slice Tryd.underlying38 (hF414.get rfl))) ?_
        intro a416 hF417; clear hF414
        refine any_nil (by decide +kernel) ?_
        refine hK252 _ _ ?_
        clear hK252
        have hF418 := (((((((((((((((((((((((((((hF417.nil.cons (hF417.get (t := 85) (v := (.int .i64 3)) rfl)).cons (hF417.get (t := 84) (v := (.slice (some ⟨g407, 0, none⟩) 3 3)) rfl)).cons (hF417.get (t := 86) (v := (.int .i64 0)) rfl)).cons (hF417.get (t := 69) (v := (.bool (decide (((k2 : Nat) : Int) < (2 : Int))))) rfl)).cons (hF417.get (t := 68) (v := (.int .i64 (k2 : Nat))) rfl)).cons (hF417.get (t := 67) (v := (.int .i64 2)) rfl)).cons (hF417.get (t := 66) (v := (.slice (some ⟨g205, 0, none⟩) 2 2)) rfl)).cons (hF417.get (t := 62) (v := (.bool (decide (((pathF (digsOf s) ((([(at_ : Int), ((andI (at_) (15)) : Int)]).getD k1 0))).2 : Int) ≠ ((pathF (digsOf s) ((([(at_ : Int), ((andI (at_) (15)) : Int)]).getD k1 0))).2 : Int))))) rfl)).cons (hF417.get (t := 39) (v := (.bool (decide (((k1 : Nat) : Int) < (2 : Int))))) rfl)).cons (hF417.get (t := 38) (v := (.int .i64 (k1 : Nat))) rfl)).cons (hF417.get (t := 37) (v := (.int .i64 2)) rfl)).cons (hF417.get (t := 36) (v := (.slice (some ⟨g70, 0, none⟩) 2 2)) rfl)).cons (hF417.get (t := 32) (v := (.bool (!decide (treeD (digsOf s) = treeD (digsOf s))))) rfl)).cons (hF417.get (t := 25) (v := (.bool false)) rfl)).cons (hF417.get (t := 17) (v := (.int .i64 (([(n : Int), (((digsOf s).length : Nat) : Int)]).getD k2 0))) rfl)).cons (hF417.get (t := 15) (v := (.int .i64 ((pathF (digsOf s) ((([(at_ : Int), ((andI (at_) (15)) : Int)]).getD k1 0))).2))) rfl)).cons (hF417.get (t := 14) (v := (.slice A146 n147 c148)) rfl)).cons (hF417.get (t := 13) (v := (.int .i64 ((pathF (digsOf s) ((([(at_ : Int), ((andI (at_) (15)) : Int)]).getD k1 0))).2))) rfl)).cons (hF417.get (t := 12) (v := (.slice A115 n116 c117)) rfl)).cons (hF417.get (t := 11) (v := (.int .i64 (([(at_ : Int), ((andI (at_) (15)) : Int)]).getD k1 0))) rfl)).cons (hF417.get (t := 9) (v := (.slice A25 ((digsOf s).length) c26)) rfl)).cons (hF417.get (t := 8) (v := (.bool false)) rfl)).cons (hF417.get (t := 7) (v := (.pointer (some ⟨g2, 0, none⟩))) rfl)).cons (hF417.get (t := 3) (v := (.agg (byteVals d).toArray)) rfl)).cons (hF417.get (t := 2) (v := (.int .i64 n)) rfl)).cons (hF417.get (t := 1) (v := (.int .i64 at_)) rfl)).cons (hF417.get (t := 0) (v := (.slice A s.length c)) rfl))
        clear hF417
        refine wp_block ?_
        have d420 := (hf230.pres ((Pres.row (((Pres.refl w223).ext hx254).ext hx379) hg391 hf395 (fun b hb h => by simp only [Clip] at h; omega)).ext hx410))
        have d421 := (hf231.pres ((Pres.row (((Pres.refl w223).ext hx254).ext hx379) hg391 hf395 (fun b hb h => by simp only [Clip] at h; omega)).ext hx410))
        have d422 := (hf232.pres ((Pres.row (((Pres.refl w223).ext hx254).ext hx379) hg391 hf395 (fun b hb h => by simp only [Clip] at h; omega)).ext hx410))
        have b423 : Blk w408 g70 3 (intVals [(at_ : Int), ((andI (at_) (15)) : Int)]) := ((grown_blk hf395 hg391 ((b228.ext hx254).ext hx379) (by decide)).ext hx410)
        have b424 : Blk w408 g205 3 (intVals [(n : Int), (((digsOf s).length : Nat) : Int)]) := ((grown_blk hf395 hg391 ((b229.ext hx254).ext hx379) (by decide)).ext hx410)
        have b425 : Blk w408 g313 26 (byteVals (d)) := ((b380.grown hg391 nb399).ext hx410)
        have r426 := (own_ext r390 hx410)
        refine wp_loop (fun a' W => ∃ (kc419 : Nat), Sl 117 [(0, (.slice A s.length c)), (1, (.int .i64 at_)), (2, (.int .i64 n)), (3, (.agg (byteVals d).toArray)), (7, (.pointer (some ⟨g2, 0, none⟩))), (8, (.bool false)), (9, (.slice A25 ((digsOf s).length) c26)), (11, (.int .i64 (([(at_ : Int), ((andI (at_) (15)) : Int)]).getD k1 0))), (12, (.slice A115 n116 c117)), (13, (.int .i64 ((pathF (digsOf s) ((([(at_ : Int), ((andI (at_) (15)) : Int)]).getD k1 0))).2))), (14, (.slice A146 n147 c148)), (15, (.int .i64 ((pathF (digsOf s) ((([(at_ : Int), ((andI (at_) (15)) : Int)]).getD k1 0))).2))), (17, (.int .i64 (([(n : Int), (((digsOf s).length : Nat) : Int)]).getD k2 0))), (25, (.bool false)), (32, (.bool (!decide (treeD (digsOf s) = treeD (digsOf s))))), (36, (.slice (some ⟨g70, 0, none⟩) 2 2)), (37, (.int .i64 2)), (38, (.int .i64 (k1 : Nat))), (39, (.bool (decide (((k1 : Nat) : Int) < (2 : Int))))), (62, (.bool (decide (((pathF (digsOf s) ((([(at_ : Int), ((andI (at_) (15)) : Int)]).getD k1 0))).2 : Int) ≠ ((pathF (digsOf s) ((([(at_ : Int), ((andI (at_) (15)) : Int)]).getD k1 0))).2 : Int))))), (66, (.slice (some ⟨g205, 0, none⟩) 2 2)), (67, (.int .i64 2)), (68, (.int .i64 (k2 : Nat))), (69, (.bool (decide (((k2 : Nat) : Int) < (2 : Int))))), (86, (.int .i64 (kc419 : Nat))), (84, (.slice (some ⟨g407, 0, none⟩) 3 3)), (85, (.int .i64 3))] a' ∧ kc419 ≤ 3 ∧ Ext w W ∧ Blk W g2 26 (byteVals d) ∧ Blk W g70 3 (intVals [(at_ : Int), ((andI (at_) (15)) : Int)]) ∧ Blk W g205 3 (intVals [(n : Int), (((digsOf s).length : Nat) : Int)]) ∧ Blk W g313 26 (byteVals (d)) ∧ Blk W g407 30 [(.slice A146 n147 c148), (.slice A387 ((0 + n147) + 1) c388), (.slice A146 (n147 / 2) c148)] ∧ W.ownsRow w253.heap.size 26 32 (.slice A387 ((0 + n147) + 1) c388) ((0 + n147) + 1) (digVals (((pathF (digsOf s) ((([(at_ : Int), ((andI (at_) (15)) : Int)]).getD k1 0))).1) ++ ([d]))) ∧ Fl (Clip (fun b => w14.heap.size ≤ b) w31) W 32 (.slice A25 ((digsOf s).length) c26) ((digsOf s).length) (digVals (digsOf s)) ∧ Fl (Clip (fun b => w85.heap.size ≤ b) w123) W 32 (.slice A115 n116 c117) n116 (digVals ((pathF (digsOf s) ((([(at_ : Int), ((andI (at_) (15)) : Int)]).getD k1 0))).1)) ∧ Fl (Clip (fun b => w123.heap.size ≤ b) w154) W 32 (.slice A146 n147 c148) n147 (digVals ((pathF (digsOf s) ((([(at_ : Int), ((andI (at_) (15)) : Int)]).getD k1 0))).1)) ∧ w253.heap.size ≤ W.heap.size ∧ w408.heap.size ≤ W.heap.size) (fun a' _ => 3 - (intOf (a'.eval (.tmp 86))).toNat) ⟨0, (((((((((((((((((((((((((((hF418.nil.cons (q_get hF418 (t := 85) rfl rfl)).cons (q_get hF418 (t := 84) rfl rfl)).cons (q_get hF418 (t := 86) rfl (by first | rfl | (congr 1; omega) | (congr 1; done)))).cons (q_get hF418 (t := 69) rfl rfl)).cons (q_get hF418 (t := 68) rfl rfl)).cons (q_get hF418 (t := 67) rfl rfl)).cons (q_get hF418 (t := 66) rfl rfl)).cons (q_get hF418 (t := 62) rfl rfl)).cons (q_get hF418 (t := 39) rfl rfl)).cons (q_get hF418 (t := 38) rfl rfl)).cons (q_get hF418 (t := 37) rfl rfl)).cons (q_get hF418 (t := 36) rfl rfl)).cons (q_get hF418 (t := 32) rfl rfl)).cons (q_get hF418 (t := 25) rfl rfl)).cons (q_get hF418 (t := 17) rfl rfl)).cons (q_get hF418 (t := 15) rfl rfl)).cons (q_get hF418 (t := 14) rfl rfl)).cons (q_get hF418 (t := 13) rfl rfl)).cons (q_get hF418 (t := 12) rfl rfl)).cons (q_get hF418 (t := 11) rfl rfl)).cons (q_get hF418 (t := 9) rfl rfl)).cons (q_get hF418 (t := 8) rfl rfl)).cons (q_get hF418 (t := 7) rfl rfl)).cons (q_get hF418 (t := 3) rfl rfl)).cons (q_get hF418 (t := 2) rfl rfl)).cons (q_get hF418 (t := 1) rfl rfl)).cons (q_get hF418 (t := 0) rfl rfl)), (by omega), ((ext_row ((((Ext.refl w).trans hx225).trans hx254).trans hx379) hg391 hf395 (by omega)).trans hx410), b415, b423, b424, b425, b409, r426, d420, d421, d422, (by omega), (Nat.le_refl _)⟩ ?_
        clear hF418
        rintro a427 w428 ⟨kc419, hF429, hp431, hx430, b432, b433, b434, b435, b436, r437, hf438, hf439, hf440, hf441, hf442⟩
        have hL443 := hF429
        have z444 := hx430.size
        have z445 := b432.lt
        have z446 := b433.lt
        have z447 := b434.lt
        have z448 := b435.lt
        have z449 := b436.lt
        have z450 := own_form0 r437
        rcases (show kc419 = 0 ∨ kc419 = 1 ∨ kc419 = 2 ∨ kc419 = 3 by omega) with hk451 | hk451 | hk451 | hk451
        · subst hk451
          refine wp_seq_k (fun K452 hK452 => ?_)
          refine wp_region_lit ?_
          refine wpl_op (i := 0) rfl (o_val (v := (.bool true)) hF429 rfl rfl rfl rfl (rn_lss' (hF429.get rfl) (hF429.get rfl) (by decide)) ?_)
          intro a453 hF454; clear hF429
          refine wpList_nil ?_
          refine hK452 _ _ ?_
          clear hK452
          refine wp_seq_k (fun K455 hK455 => ?_)
          refine wp_cond_true (c_true hF454 rfl rfl) ?_
          refine wp_skip ?_
          refine hK455 _ _ ?_
          clear hK455
          refine wp_seq_k (fun K456 hK456 => ?_)
          refine wp_block ?_
          refine wp_seq_k (fun K457 hK457 => ?_)
          refine wp_region_lit ?_
          refine wpl_op (i := 0) rfl (o_val (v := (.pointer (some ⟨g407, 0 + 0, none⟩))) hF454 rfl rfl rfl rfl (rn_index1 Tryd.underlying38 (by kernel_rfl : (Tryd.prog.info? 30).map (·.size) = some 1) (hF454.get rfl) (hF454.get rfl) (by omega : (0 : Int) ≤ 0) (by omega : (0 : Int) < ((3 : Nat) : Int))) ?_)
          intro a458 hF459; clear hF454
          refine wpl_op (i := 1) rfl (o_val (v := (.slice A146 n147 c148)) hF459 rfl rfl rfl rfl (rn_load (isAgg_no Tryd.underlying30 rfl) (hF459.get rfl) (b436.rule.1 (0 + 0))) ?_)
          intro a460 hF461; clear hF459
          refine wpl_op (i := 2) rfl (o_val (v := (.slice A146 n147 c148)) hF461 rfl rfl rfl rfl (rn_assign (hF461.get rfl)) ?_)
          intro a462 hF463; clear hF461
          refine wpList_nil ?_
          refine hK457 _ _ ?_
          clear hK457
          refine wp_seq_k (fun K464 hK464 => ?_)
          refine wp_region_lit ?_
          refine wpl_op (i := 0) rfl (o_val (v := (.agg (byteVals d).toArray)) hF463 rfl rfl rfl rfl (rn_loadBlk (hF463.get rfl) b432 Tryd.underlying26 rfl ((by kernel_rfl : (Tryd.prog.info? 26).map (·.size) = some 32).trans (congrArg some (byteVals_len hd).symm))) ?_)
          intro a465 hF466; clear hF463
          refine wpl_op (i := 1) rfl (o_val (v := (.int .i64 (([(at_ : Int), ((andI (at_) (15)) : Int)]).getD k1 0))) hF466 rfl rfl rfl rfl (rn_move (hF466.get rfl)) ?_)
          intro a467 hF468; clear hF466
          refine wpl_op (i := 2) rfl (o_val (v := (.int .i64 (([(n : Int), (((digsOf s).length : Nat) : Int)]).getD k2 0))) hF468 rfl rfl rfl rfl (rn_move (hF468.get rfl)) ?_)
          intro a469 hF470; clear hF468
          refine wpl_op (i := 3) rfl (o_val (v := (.slice A146 n147 c148)) hF470 rfl rfl rfl rfl (rn_move (hF470.get rfl)) ?_)
          intro a471 hF472; clear hF470
          refine wpl_op (i := 4) rfl (o_call hF472 rfl rfl rfl rfl (rn_call (args4 (hF472.get rfl) (hF472.get rfl) (hF472.get rfl) (hF472.get rfl)) rfl (by kernel_rfl)) (climb_at d (([(at_ : Int), ((andI (at_) (15)) : Int)]).getD k1 0) (([(n : Int), (((digsOf s).length : Nat) : Int)]).getD k2 0) ((pathF (digsOf s) ((([(at_ : Int), ((andI (at_) (15)) : Int)]).getD k1 0))).1) _ (v := (.slice A146 n147 c148)) (m := n147) hd (pathF_32 (digsOf s) (([(at_ : Int), ((andI (at_) (15)) : Int)]).getD k1 0)) hf440 (hG.ext ((Ext.refl w).trans hx430))) ?_)
          rintro _ w473 ⟨rfl, hx474⟩
          refine ⟨_, rfl, ?_⟩; intro a475 hF476; clear hF472; have z477 := hx474.size
          refine wpl_op (i := 5) rfl (o_val (v := (.tuple #[(.agg (byteVals ((climbF d (([(at_ : Int), ((andI (at_) (15)) : Int)]).getD k1 0) (([(n : Int), (((digsOf s).length : Nat) : Int)]).getD k2 0) ((pathF (digsOf s) ((([(at_ : Int), ((andI (at_) (15)) : Int)]).getD k1 0))).1)).1)).toArray), (.int .i64 ((climbF d (([(at_ : Int), ((andI (at_) (15)) : Int)]).getD k1 0) (([(n : Int), (((digsOf s).length : Nat) : Int)]).getD k2 0) ((pathF (digsOf s) ((([(at_ : Int), ((andI (at_) (15)) : Int)]).getD k1 0))).1)).2))])) hF476 rfl rfl rfl rfl (rn_move (hF476.get rfl)) ?_)
          intro a478 hF479; clear hF476
          refine wpl_op (i := 6) rfl (o_val (v := (.agg (byteVals ((climbF d (([(at_ : Int), ((andI (at_) (15)) : Int)]).getD k1 0) (([(n : Int), (((digsOf s).length : Nat) : Int)]).getD k2 0) ((pathF (digsOf s) ((([(at_ : Int), ((andI (at_) (15)) : Int)]).getD k1 0))).1)).1)).toArray)) hF479 rfl rfl rfl rfl (rn_extract (hF479.get rfl) rfl) ?_)
          intro a480 hF481; clear hF479
          refine wpl_op (i := 7) rfl (o_val (v := (.int .i64 ((climbF d (([(at_ : Int), ((andI (at_) (15)) : Int)]).getD k1 0) (([(n : Int), (((digsOf s).length : Nat) : Int)]).getD k2 0) ((pathF (digsOf s) ((([(at_ : Int), ((andI (at_) (15)) : Int)]).getD k1 0))).1)).2))) hF481 rfl rfl rfl rfl (rn_extract (hF481.get rfl) rfl) ?_)
          intro a482 hF483; clear hF481
          have r484 := (own_ext r437 hx474)
          have hf485 := r484
          refine wpl_op (i := 8) rfl (o_new (fun g => (.pointer (some ⟨g, 0, none⟩))) (byteVals (List.replicate 32 0)) 26 hF483 rfl rfl rfl rfl (by kernel_rfl) ?_)
          intro g486 w487 a492 hF493 z490 z491 b488 hx489; clear hF483
          have nb494 := own_new (g := g486) hf485 (by omega)
          refine wpl_op (i := 9) rfl (o_store (cells := (byteVals ((climbF d (([(at_ : Int), ((andI (at_) (15)) : Int)]).getD k1 0) (([(n : Int), (((digsOf s).length : Nat) : Int)]).getD k2 0) ((pathF (digsOf s) ((([(at_ : Int), ((andI (at_) (15)) : Int)]).getD k1 0))).1)).1))) hF493 rfl rfl rfl rfl (hF493.get rfl) (hF493.get rfl) b488 ((by kernel_rfl : (Tryd.prog.info? 26).map (·.size) = some 32).trans (congrArg some (byteVals_len (climbF_len _ _ _ _)).symm)) ((byteVals_len (show List.length (List.replicate 32 0) = _ from List.length_replicate)).trans (byteVals_len (climbF_len _ _ _ _)).symm) (byteVals_one _) ?_)
          intro w495 b496 hg497; have z498 := hg497.size
          refine wpl_op (i := 10) rfl (o_val (v := (.int .i64 ((climbF d (([(at_ : Int), ((andI (at_) (15)) : Int)]).getD k1 0) (([(n : Int), (((digsOf s).length : Nat) : Int)]).getD k2 0) ((pathF (digsOf s) ((([(at_ : Int), ((andI (at_) (15)) : Int)]).getD k1 0))).1)).2))) hF493 rfl rfl rfl rfl (rn_assign (hF493.get rfl)) ?_)
          intro a499 hF500; clear hF493
          refine wpList_nil ?_
          refine hK464 _ _ ?_
          clear hK464
          have hF501 := (((((((((((((((((((((((((((((((hF500.nil.cons (hF500.get (t := 21) (v := (.int .i64 ((climbF d (([(at_ : Int), ((andI (at_) (15)) : Int)]).getD k1 0) (([(n : Int), (((digsOf s).length : Nat) : Int)]).getD k2 0) ((pathF (digsOf s) ((([(at_ : Int), ((andI (at_) (15)) : Int)]).getD k1 0))).1)).2))) rfl)).cons (hF500.get (t := 20) (v := (.pointer (some ⟨g486, 0, none⟩))) rfl)).cons (hF500.get (t := 19) (v := (.slice A146 n147 c148)) rfl)).cons (hF500.get (t := 87) (v := (.bool true)) rfl)).cons (hF500.get (t := 85) (v := (.int .i64 3)) rfl)).cons (hF500.get (t := 84) (v := (.slice (some ⟨g407, 0, none⟩) 3 3)) rfl)).cons (hF500.get (t := 86) (v := (.int .i64 0)) rfl)).cons (hF500.get (t := 69) (v := (.bool (decide (((k2 : Nat) : Int) < (2 : Int))))) rfl)).cons (hF500.get (t := 68) (v := (.int .i64 (k2 : Nat))) rfl)).cons (hF500.get (t := 67) (v := (.int .i64 2)) rfl)).cons (hF500.get (t := 66) (v := (.slice (some ⟨g205, 0, none⟩) 2 2)) rfl)).cons (hF500.get (t := 62) (v := (.bool (decide (((pathF (digsOf s) ((([(at_ : Int), ((andI (at_) (15)) : Int)]).getD k1 0))).2 : Int) ≠ ((pathF (digsOf s) ((([(at_ : Int), ((andI (at_) (15)) : Int)]).getD k1 0))).2 : Int))))) rfl)).cons (hF500.get (t := 39) (v := (.bool (decide (((k1 : Nat) : Int) < (2 : Int))))) rfl)).cons (hF500.get (t := 38) (v := (.int .i64 (k1 : Nat))) rfl)).cons (hF500.get (t := 37) (v := (.int .i64 2)) rfl)).cons (hF500.get (t := 36) (v := (.slice (some ⟨g70, 0, none⟩) 2 2)) rfl)).cons (hF500.get (t := 32) (v := (.bool (!decide (treeD (digsOf s) = treeD (digsOf s))))) rfl)).cons (hF500.get (t := 25) (v := (.bool false)) rfl)).cons (hF500.get (t := 17) (v := (.int .i64 (([(n : Int), (((digsOf s).length : Nat) : Int)]).getD k2 0))) rfl)).cons (hF500.get (t := 15) (v := (.int .i64 ((pathF (digsOf s) ((([(at_ : Int), ((andI (at_) (15)) : Int)]).getD k1 0))).2))) rfl)).cons (hF500.get (t := 14) (v := (.slice A146 n147 c148)) rfl)).cons (hF500.get (t := 13) (v := (.int .i64 ((pathF (digsOf s) ((([(at_ : Int), ((andI (at_) (15)) : Int)]).getD k1 0))).2))) rfl)).cons (hF500.get (t := 12) (v := (.slice A115 n116 c117)) rfl)).cons (hF500.get (t := 11) (v := (.int .i64 (([(at_ : Int), ((andI (at_) (15)) : Int)]).getD k1 0))) rfl)).cons (hF500.get (t := 9) (v := (.slice A25 ((digsOf s).length) c26)) rfl)).cons (hF500.get (t := 8) (v := (.bool false)) rfl)).cons (hF500.get (t := 7) (v := (.pointer (some ⟨g2, 0, none⟩))) rfl)).cons (hF500.get (t := 3) (v := (.agg (byteVals d).toArray)) rfl)).cons (hF500.get (t := 2) (v := (.int .i64 n)) rfl)).cons (hF500.get (t := 1) (v := (.int .i64 at_)) rfl)).cons (hF500.get (t := 0) (v := (.slice A s.length c)) rfl))
          clear hF500
          refine wp_seq_k (fun K502 hK502 => ?_)
          refine wp_region_lit ?_
          have b503 : Blk w495 g2 26 (byteVals d) := (((b432.ext hx474).ext hx489).grownN hg497 (by omega))
          refine wpl_op (i := 0) rfl (o_val (v := (.agg (byteVals d).toArray)) hF501 rfl rfl rfl rfl (rn_loadBlk (hF501.get rfl) b503 Tryd.underlying26 rfl ((by kernel_rfl : (Tryd.prog.info? 26).map (·.size) = some 32).trans (congrArg some (byteVals_len hd).symm))) ?_)
          intro a504 hF505; clear hF501
          refine wpl_op (i := 1) rfl (o_val (v := (.int .i64 (([(at_ : Int), ((andI (at_) (15)) : Int)]).getD k1 0))) hF505 rfl rfl rfl rfl (rn_move (hF505.get rfl)) ?_)
          intro a506 hF507; clear hF505
          refine wpl_op (i := 2) rfl (o_val (v := (.int .i64 (([(n : Int), (((digsOf s).length : Nat) : Int)]).getD k2 0))) hF507 rfl rfl rfl rfl (rn_move (hF507.get rfl)) ?_)
          intro a508 hF509; clear hF507
          refine wpl_op (i := 3) rfl (o_val (v := (.slice A146 n147 c148)) hF509 rfl rfl rfl rfl (rn_move (hF509.get rfl)) ?_)
          intro a510 hF511; clear hF509
          have d512 := (hf440.pres ((((Pres.refl w428).ext hx474).ext hx489).grownN hg497 (fun h => by simp only [Clip] at h; omega)))
          refine wpl_op (i := 4) rfl (o_call hF511 rfl rfl rfl rfl (rn_call (args4 (hF511.get rfl) (hF511.get rfl) (hF511.get rfl) (hF511.get rfl)) rfl (by kernel_rfl)) (rClimb_at d (([(at_ : Int), ((andI (at_) (15)) : Int)]).getD k1 0) (([(n : Int), (((digsOf s).length : Nat) : Int)]).getD k2 0) ((pathF (digsOf s) ((([(at_ : Int), ((andI (at_) (15)) : Int)]).getD k1 0))).1) _ (v := (.slice A146 n147 c148)) (m := n147) hd (pathF_32 (digsOf s) (([(at_ : Int), ((andI (at_) (15)) : Int)]).getD k1 0)) d512) ?_)
          rintro _ w513 ⟨rfl, hx514⟩
          refine ⟨_, rfl, ?_⟩; intro a515 hF516; clear hF511; have z517 := hx514.size
          refine wpl_op (i := 5) rfl (o_val (v := (.tuple #[(.agg (byteVals ((climbF d (([(at_ : Int), ((andI (at_) (15)) : Int)]).getD k1 0) (([(n : Int), (((digsOf s).length : Nat) : Int)]).getD k2 0) ((pathF (digsOf s) ((([(at_ : Int), ((andI (at_) (15)) : Int)]).getD k1 0))).1)).1)).toArray), (.int .i64 ((climbF d (([(at_ : Int), ((andI (at_) (15)) : Int)]).getD k1 0) (([(n : Int), (((digsOf s).length : Nat) : Int)]).getD k2 0) ((pathF (digsOf s) ((([(at_ : Int), ((andI (at_) (15)) : Int)]).getD k1 0))).1)).2))])) hF516 rfl rfl rfl rfl (rn_move (hF516.get rfl)) ?_)
          intro a518 hF519; clear hF516
          refine wpl_op (i := 6) rfl (o_val (v := (.agg (byteVals ((climbF d (([(at_ : Int), ((andI (at_) (15)) : Int)]).getD k1 0) (([(n : Int), (((digsOf s).length : Nat) : Int)]).getD k2 0) ((pathF (digsOf s) ((([(at_ : Int), ((andI (at_) (15)) : Int)]).getD k1 0))).1)).1)).toArray)) hF519 rfl rfl rfl rfl (rn_extract (hF519.get rfl) rfl) ?_)
          intro a520 hF521; clear hF519
          refine wpl_op (i := 7) rfl (o_val (v := (.int .i64 ((climbF d (([(at_ : Int), ((andI (at_) (15)) : Int)]).getD k1 0) (([(n : Int), (((digsOf s).length : Nat) : Int)]).getD k2 0) ((pathF (digsOf s) ((([(at_ : Int), ((andI (at_) (15)) : Int)]).getD k1 0))).1)).2))) hF521 rfl rfl rfl rfl (rn_extract (hF521.get rfl) rfl) ?_)
          intro a522 hF523; clear hF521
          have r524 := (own_ext (own_grownB (own_ext r484 hx489) hg497 nb494) hx514)
          have hf525 := r524
          refine wpl_op (i := 8) rfl (o_new (fun g => (.pointer (some ⟨g, 0, none⟩))) (byteVals (List.replicate 32 0)) 26 hF523 rfl rfl rfl rfl (by kernel_rfl) ?_)
          intro g526 w527 a532 hF533 z530 z531 b528 hx529; clear hF523
          have nb534 := own_new (g := g526) hf525 (by omega)
          refine wpl_op (i := 9) rfl (o_store (cells := (byteVals ((climbF d (([(at_ : Int), ((andI (at_) (15)) : Int)]).getD k1 0) (([(n : Int), (((digsOf s).length : Nat) : Int)]).getD k2 0) ((pathF (digsOf s) ((([(at_ : Int), ((andI (at_) (15)) : Int)]).getD k1 0))).1)).1))) hF533 rfl rfl rfl rfl (hF533.get rfl) (hF533.get rfl) b528 ((by kernel_rfl : (Tryd.prog.info? 26).map (·.size) = some 32).trans (congrArg some (byteVals_len (climbF_len _ _ _ _)).symm)) ((byteVals_len (show List.length (List.replicate 32 0) = _ from List.length_replicate)).trans (byteVals_len (climbF_len _ _ _ _)).symm) (byteVals_one _) ?_)
          intro w535 b536 hg537; have z538 := hg537.size
          refine wpl_op (i := 10) rfl (o_val (v := (.int .i64 ((climbF d (([(at_ : Int), ((andI (at_) (15)) : Int)]).getD k1 0) (([(n : Int), (((digsOf s).length : Nat) : Int)]).getD k2 0) ((pathF (digsOf s) ((([(at_ : Int), ((andI (at_) (15)) : Int)]).getD k1 0))).1)).2))) hF533 rfl rfl rfl rfl (rn_assign (hF533.get rfl)) ?_)
          intro a539 hF540; clear hF533
          refine wpList_nil ?_
          refine hK502 _ _ ?_
          clear hK502
          have hF541 := (((((((((((((((((((((((((((((((((hF540.nil.cons (hF540.get (t := 23) (v := (.int .i64 ((climbF d (([(at_ : Int), ((andI (at_) (15)) : Int)]).getD k1 0) (([(n : Int), (((digsOf s).length : Nat) : Int)]).getD k2 0) ((pathF (digsOf s) ((([(at_ : Int), ((andI (at_) (15)) : Int)]).getD k1 0))).1)).2))) rfl)).cons (hF540.get (t := 22) (v := (.pointer (some ⟨g526, 0, none⟩))) rfl)).cons (hF540.get (t := 21) (v := (.int .i64 ((climbF d (([(at_ : Int), ((andI (at_) (15)) : Int)]).getD k1 0) (([(n : Int), (((digsOf s).length : Nat) : Int)]).getD k2 0) ((pathF (digsOf s) ((([(at_ : Int), ((andI (at_) (15)) : Int)]).getD k1 0))).1)).2))) rfl)).cons (hF540.get (t := 20) (v := (.pointer (some ⟨g486, 0, none⟩))) rfl)).cons (hF540.get (t := 19) (v := (.slice A146 n147 c148)) rfl)).cons (hF540.get (t := 87) (v := (.bool true)) rfl)).cons (hF540.get (t := 85) (v := (.int .i64 3)) rfl)).cons (hF540.get (t := 84) (v := (.slice (some ⟨g407, 0, none⟩) 3 3)) rfl)).cons (hF540.get (t := 86) (v := (.int .i64 0)) rfl)).cons (hF540.get (t := 69) (v := (.bool (decide (((k2 : Nat) : Int) < (2 : Int))))) rfl)).cons (hF540.get (t := 68) (v := (.int .i64 (k2 : Nat))) rfl)).cons (hF540.get (t := 67) (v := (.int .i64 2)) rfl)).cons (hF540.get (t := 66) (v := (.slice (some ⟨g205, 0, none⟩) 2 2)) rfl)).cons (hF540.get (t := 62) (v := (.bool (decide (((pathF (digsOf s) ((([(at_ : Int), ((andI (at_) (15)) : Int)]).getD k1 0))).2 : Int) ≠ ((pathF (digsOf s) ((([(at_ : Int), ((andI (at_) (15)) : Int)]).getD k1 0))).2 : Int))))) rfl)).cons (hF540.get (t := 39) (v := (.bool (decide (((k1 : Nat) : Int) < (2 : Int))))) rfl)).cons (hF540.get (t := 38) (v := (.int .i64 (k1 : Nat))) rfl)).cons (hF540.get (t := 37) (v := (.int .i64 2)) rfl)).cons (hF540.get (t := 36) (v := (.slice (some ⟨g70, 0, none⟩) 2 2)) rfl)).cons (hF540.get (t := 32) (v := (.bool (!decide (treeD (digsOf s) = treeD (digsOf s))))) rfl)).cons (hF540.get (t := 25) (v := (.bool false)) rfl)).cons (hF540.get (t := 17) (v := (.int .i64 (([(n : Int), (((digsOf s).length : Nat) : Int)]).getD k2 0))) rfl)).cons (hF540.get (t := 15) (v := (.int .i64 ((pathF (digsOf s) ((([(at_ : Int), ((andI (at_) (15)) : Int)]).getD k1 0))).2))) rfl)).cons (hF540.get (t := 14) (v := (.slice A146 n147 c148)) rfl)).cons (hF540.get (t := 13) (v := (.int .i64 ((pathF (digsOf s) ((([(at_ : Int), ((andI (at_) (15)) : Int)]).getD k1 0))).2))) rfl)).cons (hF540.get (t := 12) (v := (.slice A115 n116 c117)) rfl)).cons (hF540.get (t := 11) (v := (.int .i64 (([(at_ : Int), ((andI (at_) (15)) : Int)]).getD k1 0))) rfl)).cons (hF540.get (t := 9) (v := (.slice A25 ((digsOf s).length) c26)) rfl)).cons (hF540.get (t := 8) (v := (.bool false)) rfl)).cons (hF540.get (t := 7) (v := (.pointer (some ⟨g2, 0, none⟩))) rfl)).cons (hF540.get (t := 3) (v := (.agg (byteVals d).toArray)) rfl)).cons (hF540.get (t := 2) (v := (.int .i64 n)) rfl)).cons (hF540.get (t := 1) (v := (.int .i64 at_)) rfl)).cons (hF540.get (t := 0) (v := (.slice A s.length c)) rfl))
          clear hF540
          refine wp_seq_k (fun K542 hK542 => ?_)
          refine wp_region_lit ?_
          have b543 : Blk w535 g486 26 (byteVals ((climbF d (([(at_ : Int), ((andI (at_) (15)) : Int)]).getD k1 0) (([(n : Int), (((digsOf s).length : Nat) : Int)]).getD k2 0) ((pathF (digsOf s) ((([(at_ : Int), ((andI (at_) (15)) : Int)]).getD k1 0))).1)).1)) := (((b496.ext hx514).ext hx529).grownN hg537 (by omega))
          refine wpl_op (i := 0) rfl (o_val (v := (.agg (byteVals ((climbF d (([(at_ : Int), ((andI (at_) (15)) : Int)]).getD k1 0) (([(n : Int), (((digsOf s).length : Nat) : Int)]).getD k2 0) ((pathF (digsOf s) ((([(at_ : Int), ((andI (at_) (15)) : Int)]).getD k1 0))).1)).1)).toArray)) hF541 rfl rfl rfl rfl (rn_loadBlk (hF541.get rfl) b543 Tryd.underlying26 rfl ((by kernel_rfl : (Tryd.prog.info? 26).map (·.size) = some 32).trans (congrArg some (byteVals_len (climbF_len _ _ _ _)).symm))) ?_)
          intro a544 hF545; clear hF541
          refine wpl_op (i := 1) rfl (o_val (v := (.agg (byteVals ((climbF d (([(at_ : Int), ((andI (at_) (15)) : Int)]).getD k1 0) (([(n : Int), (((digsOf s).length : Nat) : Int)]).getD k2 0) ((pathF (digsOf s) ((([(at_ : Int), ((andI (at_) (15)) : Int)]).getD k1 0))).1)).1)).toArray)) hF545 rfl rfl rfl rfl (rn_loadBlk (hF545.get rfl) b536 Tryd.underlying26 rfl ((by kernel_rfl : (Tryd.prog.info? 26).map (·.size) = some 32).trans (congrArg some (byteVals_len (climbF_len _ _ _ _)).symm))) ?_)
          intro a546 hF547; clear hF545
          refine wpl_op (i := 2) rfl (o_val (v := (.bool (!decide ((climbF d (([(at_ : Int), ((andI (at_) (15)) : Int)]).getD k1 0) (([(n : Int), (((digsOf s).length : Nat) : Int)]).getD k2 0) ((pathF (digsOf s) ((([(at_ : Int), ((andI (at_) (15)) : Int)]).getD k1 0))).1)).1 = (climbF d (([(at_ : Int), ((andI (at_) (15)) : Int)]).getD k1 0) (([(n : Int), (((digsOf s).length : Nat) : Int)]).getD k2 0) ((pathF (digsOf s) ((([(at_ : Int), ((andI (at_) (15)) : Int)]).getD k1 0))).1)).1)))) hF547 rfl rfl rfl rfl (rn_neA Tryd.underlying26 Tryd.underlying5 (by kernel_rfl : (Tryd.prog.info? 5).map (·.size) = some 1) (by kernel_rfl) (hF547.get rfl) (hF547.get rfl) (climbF_len _ _ _ _) (climbF_len _ _ _ _)) ?_)
          intro a548 hF549; clear hF547
          refine wpl_op (i := 3) rfl (o_val (v := (.bool (!decide ((climbF d (([(at_ : Int), ((andI (at_) (15)) : Int)]).getD k1 0) (([(n : Int), (((digsOf s).length : Nat) : Int)]).getD k2 0) ((pathF (digsOf s) ((([(at_ : Int), ((andI (at_) (15)) : Int)]).getD k1 0))).1)).1 = (climbF d (([(at_ : Int), ((andI (at_) (15)) : Int)]).getD k1 0) (([(n : Int), (((digsOf s).length : Nat) : Int)]).getD k2 0) ((pathF (digsOf s) ((([(at_ : Int), ((andI (at_) (15)) : Int)]).getD k1 0))).1)).1)))) hF549 rfl rfl rfl rfl (rn_move (hF549.get rfl)) ?_)
          intro a550 hF551; clear hF549
          refine wpl_op (i := 4) rfl (o_val (v := (.int .i64 ((climbF d (([(at_ : Int), ((andI (at_) (15)) : Int)]).getD k1 0) (([(n : Int), (((digsOf s).length : Nat) : Int)]).getD k2 0) ((pathF (digsOf s) ((([(at_ : Int), ((andI (at_) (15)) : Int)]).getD k1 0))).1)).2))) hF551 rfl (wanted_guard rfl rfl rfl hF551 rfl (not_t ((decide_eq_true rfl) : decide ((climbF d (([(at_ : Int), ((andI (at_) (15)) : Int)]).getD k1 0) (([(n : Int), (((digsOf s).length : Nat) : Int)]).getD k2 0) ((pathF (digsOf s) ((([(at_ : Int), ((andI (at_) (15)) : Int)]).getD k1 0))).1)).1 = (climbF d (([(at_ : Int), ((andI (at_) (15)) : Int)]).getD k1 0) (([(n : Int), (((digsOf s).length : Nat) : Int)]).getD k2 0) ((pathF (digsOf s) ((([(at_ : Int), ((andI (at_) (15)) : Int)]).getD k1 0))).1)).1) = true)) rfl) rfl rfl (rn_move (hF551.get rfl)) ?_)
          intro a553 hF554; clear hF551
          refine wpl_op (i := 5) rfl (o_val (v := (.int .i64 ((climbF d (([(at_ : Int), ((andI (at_) (15)) : Int)]).getD k1 0) (([(n : Int), (((digsOf s).length : Nat) : Int)]).getD k2 0) ((pathF (digsOf s) ((([(at_ : Int), ((andI (at_) (15)) : Int)]).getD k1 0))).1)).2))) hF554 rfl (wanted_guard rfl rfl rfl hF554 rfl (not_t ((decide_eq_true rfl) : decide ((climbF d (([(at_ : Int), ((andI (at_) (15)) : Int)]).getD k1 0) (([(n : Int), (((digsOf s).length : Nat) : Int)]).getD k2 0) ((pathF (digsOf s) ((([(at_ : Int), ((andI (at_) (15)) : Int)]).getD k1 0))).1)).1 = (climbF d (([(at_ : Int), ((andI (at_) (15)) : Int)]).getD k1 0) (([(n : Int), (((digsOf s).length : Nat) : Int)]).getD k2 0) ((pathF (digsOf s) ((([(at_ : Int), ((andI (at_) (15)) : Int)]).getD k1 0))).1)).1) = true)) rfl) rfl rfl (rn_move (hF554.get rfl)) ?_)
          intro a555 hF556; clear hF554
          refine wpl_op (i := 6) rfl (o_val (v := (.bool (decide (((climbF d (([(at_ : Int), ((andI (at_) (15)) : Int)]).getD k1 0) (([(n : Int), (((digsOf s).length : Nat) : Int)]).getD k2 0) ((pathF (digsOf s) ((([(at_ : Int), ((andI (at_) (15)) : Int)]).getD k1 0))).1)).2 : Int) ≠ ((climbF d (([(at_ : Int), ((andI (at_) (15)) : Int)]).getD k1 0) (([(n : Int), (((digsOf s).length : Nat) : Int)]).getD k2 0) ((pathF (digsOf s) ((([(at_ : Int), ((andI (at_) (15)) : Int)]).getD k1 0))).1)).2 : Int))))) hF556 rfl (wanted_guard rfl rfl rfl hF556 rfl (not_t ((decide_eq_true rfl) : decide ((climbF d (([(at_ : Int), ((andI (at_) (15)) : Int)]).getD k1 0) (([(n : Int), (((digsOf s).length : Nat) : Int)]).getD k2 0) ((pathF (digsOf s) ((([(at_ : Int), ((andI (at_) (15)) : Int)]).getD k1 0))).1)).1 = (climbF d (([(at_ : Int), ((andI (at_) (15)) : Int)]).getD k1 0) (([(n : Int), (((digsOf s).length : Nat) : Int)]).getD k2 0) ((pathF (digsOf s) ((([(at_ : Int), ((andI (at_) (15)) : Int)]).getD k1 0))).1)).1) = true)) rfl) rfl rfl (rn_neq (hF556.get rfl) (hF556.get rfl)) ?_)
          intro a557 hF558; clear hF556
          refine wpl_op (i := 7) rfl (o_val (v := (.bool (decide (((climbF d (([(at_ : Int), ((andI (at_) (15)) : Int)]).getD k1 0) (([(n : Int), (((digsOf s).length : Nat) : Int)]).getD k2 0) ((pathF (digsOf s) ((([(at_ : Int), ((andI (at_) (15)) : Int)]).getD k1 0))).1)).2 : Int) ≠ ((climbF d (([(at_ : Int), ((andI (at_) (15)) : Int)]).getD k1 0) (([(n : Int), (((digsOf s).length : Nat) : Int)]).getD k2 0) ((pathF (digsOf s) ((([(at_ : Int), ((andI (at_) (15)) : Int)]).getD k1 0))).1)).2 : Int))))) hF558 rfl rfl rfl rfl (rn_pickF (c_false hF558 rfl (not_t ((decide_eq_true rfl) : decide ((climbF d (([(at_ : Int), ((andI (at_) (15)) : Int)]).getD k1 0) (([(n : Int), (((digsOf s).length : Nat) : Int)]).getD k2 0) ((pathF (digsOf s) ((([(at_ : Int), ((andI (at_) (15)) : Int)]).getD k1 0))).1)).1 = (climbF d (([(at_ : Int), ((andI (at_) (15)) : Int)]).getD k1 0) (([(n : Int), (((digsOf s).length : Nat) : Int)]).getD k2 0) ((pathF (digsOf s) ((([(at_ : Int), ((andI (at_) (15)) : Int)]).getD k1 0))).1)).1) = true))) (hF558.get rfl)) ?_)
          intro a559 hF560; clear hF558
          refine wpList_nil ?_
          refine hK542 _ _ ?_
          clear hK542
          have hF561 := ((((((((((((((((((((((((((((((((((hF560.nil.cons (hF560.get (t := 113) (v := (.bool (decide (((climbF d (([(at_ : Int), ((andI (at_) (15)) : Int)]).getD k1 0) (([(n : Int), (((digsOf s).length : Nat) : Int)]).getD k2 0) ((pathF (digsOf s) ((([(at_ : Int), ((andI (at_) (15)) : Int)]).getD k1 0))).1)).2 : Int) ≠ ((climbF d (([(at_ : Int), ((andI (at_) (15)) : Int)]).getD k1 0) (([(n : Int), (((digsOf s).length : Nat) : Int)]).getD k2 0) ((pathF (digsOf s) ((([(at_ : Int), ((andI (at_) (15)) : Int)]).getD k1 0))).1)).2 : Int))))) rfl)).cons (hF560.get (t := 23) (v := (.int .i64 ((climbF d (([(at_ : Int), ((andI (at_) (15)) : Int)]).getD k1 0) (([(n : Int), (((digsOf s).length : Nat) : Int)]).getD k2 0) ((pathF (digsOf s) ((([(at_ : Int), ((andI (at_) (15)) : Int)]).getD k1 0))).1)).2))) rfl)).cons (hF560.get (t := 22) (v := (.pointer (some ⟨g526, 0, none⟩))) rfl)).cons (hF560.get (t := 21) (v := (.int .i64 ((climbF d (([(at_ : Int), ((andI (at_) (15)) : Int)]).getD k1 0) (([(n : Int), (((digsOf s).length : Nat) : Int)]).getD k2 0) ((pathF (digsOf s) ((([(at_ : Int), ((andI (at_) (15)) : Int)]).getD k1 0))).1)).2))) rfl)).cons (hF560.get (t := 20) (v := (.pointer (some ⟨g486, 0, none⟩))) rfl)).cons (hF560.get (t := 19) (v := (.slice A146 n147 c148)) rfl)).cons (hF560.get (t := 87) (v := (.bool true)) rfl)).cons (hF560.get (t := 85) (v := (.int .i64 3)) rfl)).cons (hF560.get (t := 84) (v := (.slice (some ⟨g407, 0, none⟩) 3 3)) rfl)).cons (hF560.get (t := 86) (v := (.int .i64 0)) rfl)).cons (hF560.get (t := 69) (v := (.bool (decide (((k2 : Nat) : Int) < (2 : Int))))) rfl)).cons (hF560.get (t := 68) (v := (.int .i64 (k2 : Nat))) rfl)).cons (hF560.get (t := 67) (v := (.int .i64 2)) rfl)).cons (hF560.get (t := 66) (v := (.slice (some ⟨g205, 0, none⟩) 2 2)) rfl)).cons (hF560.get (t := 62) (v := (.bool (decide (((pathF (digsOf s) ((([(at_ : Int), ((andI (at_) (15)) : Int)]).getD k1 0))).2 : Int) ≠ ((pathF (digsOf s) ((([(at_ : Int), ((andI (at_) (15)) : Int)]).getD k1 0))).2 : Int))))) rfl)).cons (hF560.get (t := 39) (v := (.bool (decide (((k1 : Nat) : Int) < (2 : Int))))) rfl)).cons (hF560.get (t := 38) (v := (.int .i64 (k1 : Nat))) rfl)).cons (hF560.get (t := 37) (v := (.int .i64 2)) rfl)).cons (hF560.get (t := 36) (v := (.slice (some ⟨g70, 0, none⟩) 2 2)) rfl)).cons (hF560.get (t := 32) (v := (.bool (!decide (treeD (digsOf s) = treeD (digsOf s))))) rfl)).cons (hF560.get (t := 25) (v := (.bool false)) rfl)).cons (hF560.get (t := 17) (v := (.int .i64 (([(n : Int), (((digsOf s).length : Nat) : Int)]).getD k2 0))) rfl)).cons (hF560.get (t := 15) (v := (.int .i64 ((pathF (digsOf s) ((([(at_ : Int), ((andI (at_) (15)) : Int)]).getD k1 0))).2))) rfl)).cons (hF560.get (t := 14) (v := (.slice A146 n147 c148)) rfl)).cons (hF560.get (t := 13) (v := (.int .i64 ((pathF (digsOf s) ((([(at_ : Int), ((andI (at_) (15)) : Int)]).getD k1 0))).2))) rfl)).cons (hF560.get (t := 12) (v := (.slice A115 n116 c117)) rfl)).cons (hF560.get (t := 11) (v := (.int .i64 (([(at_ : Int), ((andI (at_) (15)) : Int)]).getD k1 0))) rfl)).cons (hF560.get (t := 9) (v := (.slice A25 ((digsOf s).length) c26)) rfl)).cons (hF560.get (t := 8) (v := (.bool false)) rfl)).cons (hF560.get (t := 7) (v := (.pointer (some ⟨g2, 0, none⟩))) rfl)).cons (hF560.get (t := 3) (v := (.agg (byteVals d).toArray)) rfl)).cons (hF560.get (t := 2) (v := (.int .i64 n)) rfl)).cons (hF560.get (t := 1) (v := (.int .i64 at_)) rfl)).cons (hF560.get (t := 0) (v := (.slice A s.length c)) rfl))
          clear hF560
          refine wp_cond_false (c_false hF561 rfl ((decide_eq_false (by simp)) : decide (((climbF d (([(at_ : Int), ((andI (at_) (15)) : Int)]).getD k1 0) (([(n : Int), (((digsOf s).length : Nat) : Int)]).getD k2 0) ((pathF (digsOf s) ((([(at_ : Int), ((andI (at_) (15)) : Int)]).getD k1 0))).1)).2 : Int) ≠ ((climbF d (([(at_ : Int), ((andI (at_) (15)) : Int)]).getD k1 0) (([(n : Int), (((digsOf s).length : Nat) : Int)]).getD k2 0) ((pathF (digsOf s) ((([(at_ : Int), ((andI (at_) (15)) : Int)]).getD k1 0))).1)).2 : Int)) = false)) ?_
          refine wp_skip ?_
          refine hK456 _ _ ?_
          clear hK456
          refine wp_region_lit ?_
          refine wpl_op (i := 0) rfl (o_val (v := (.int .i64 1)) hF561 rfl rfl rfl rfl (rn_add (hF561.get rfl) rfl (by omega) (by omega)) ?_)
          intro a563 hF564; clear hF561
          refine wpl_op (i := 1) rfl (o_val (v := (.int .i64 1)) hF564 rfl rfl rfl rfl (rn_move (hF564.get rfl)) ?_)
          intro a565 hF566; clear hF564
          refine wpList_nil ?_
          have d567 := (hf438.pres (((((((Pres.refl w428).ext hx474).ext hx489).grownN hg497 (fun h => by simp only [Clip] at h; omega)).ext hx514).ext hx529).grownN hg537 (fun h => by simp only [Clip] at h; omega)))
          have d568 := (hf439.pres (((((((Pres.refl w428).ext hx474).ext hx489).grownN hg497 (fun h => by simp only [Clip] at h; omega)).ext hx514).ext hx529).grownN hg537 (fun h => by simp only [Clip] at h; omega)))
          have d569 := (hf440.pres (((((((Pres.refl w428).ext hx474).ext hx489).grownN hg497 (fun h => by simp only [Clip] at h; omega)).ext hx514).ext hx529).grownN hg537 (fun h => by simp only [Clip] at h; omega)))
          have b570 : Blk w535 g2 26 (byteVals d) := (((b503.ext hx514).ext hx529).grownN hg537 (by omega))
          have b571 : Blk w535 g70 3 (intVals [(at_ : Int), ((andI (at_) (15)) : Int)]) := ((((((b433.ext hx474).ext hx489).grownN hg497 (by omega)).ext hx514).ext hx529).grownN hg537 (by omega))
          have b572 : Blk w535 g205 3 (intVals [(n : Int), (((digsOf s).length : Nat) : Int)]) := ((((((b434.ext hx474).ext hx489).grownN hg497 (by omega)).ext hx514).ext hx529).grownN hg537 (by omega))
          have b573 : Blk w535 g313 26 (byteVals (d)) := ((((((b435.ext hx474).ext hx489).grownN hg497 (by omega)).ext hx514).ext hx529).grownN hg537 (by omega))
          have b574 : Blk w535 g407 30 [(.slice A146 n147 c148), (.slice A387 ((0 + n147) + 1) c388), (.slice A146 (n147 / 2) c148)] := ((((((b436.ext hx474).ext hx489).grownN hg497 (by omega)).ext hx514).ext hx529).grownN hg537 (by omega))
          have r575 := (own_grownB (own_ext r524 hx529) hg537 nb534)
          refine ⟨⟨1, (((((((((((((((((((((((((((hF566.nil.cons (q_get hF566 (t := 85) rfl rfl)).cons (q_get hF566 (t := 84) rfl rfl)).cons (q_get hF566 (t := 86) rfl (by first | rfl | (congr 1; omega) | (congr 1; done)))).cons (q_get hF566 (t := 69) rfl rfl)).cons (q_get hF566 (t := 68) rfl rfl)).cons (q_get hF566 (t := 67) rfl rfl)).cons (q_get hF566 (t := 66) rfl rfl)).cons (q_get hF566 (t := 62) rfl rfl)).cons (q_get hF566 (t := 39) rfl rfl)).cons (q_get hF566 (t := 38) rfl rfl)).cons (q_get hF566 (t := 37) rfl rfl)).cons (q_get hF566 (t := 36) rfl rfl)).cons (q_get hF566 (t := 32) rfl rfl)).cons (q_get hF566 (t := 25) rfl rfl)).cons (q_get hF566 (t := 17) rfl rfl)).cons (q_get hF566 (t := 15) rfl rfl)).cons (q_get hF566 (t := 14) rfl rfl)).cons (q_get hF566 (t := 13) rfl rfl)).cons (q_get hF566 (t := 12) rfl rfl)).cons (q_get hF566 (t := 11) rfl rfl)).cons (q_get hF566 (t := 9) rfl rfl)).cons (q_get hF566 (t := 8) rfl rfl)).cons (q_get hF566 (t := 7) rfl rfl)).cons (q_get hF566 (t := 3) rfl rfl)).cons (q_get hF566 (t := 2) rfl rfl)).cons (q_get hF566 (t := 1) rfl rfl)).cons (q_get hF566 (t := 0) rfl rfl)), (by omega), ((((((((Ext.refl w).trans hx430).trans hx474).trans hx489).grownN hg497 (by omega)).trans hx514).trans hx529).grownN hg537 (by omega)), b570, b571, b572, b573, b574, r575, d567, d568, d569, (by omega), (by omega)⟩, ?_⟩
          rw [hF566.get (t := 86) rfl, hL443.get (t := 86) rfl]; simp [intOf] <;> omega
        · subst hk451
          refine wp_seq_k (fun K576 hK576 => ?_)
          refine wp_region_lit ?_
          refine wpl_op (i := 0) rfl (o_val (v := (.bool true)) hF429 rfl rfl rfl rfl (rn_lss' (hF429.get rfl) (hF429.get rfl) (by decide)) ?_)
          intro a577 hF578; clear hF429
          refine wpList_nil ?_
          refine hK576 _ _ ?_
          clear hK576
          refine wp_seq_k (fun K579 hK579 => ?_)
          refine wp_cond_true (c_true hF578 rfl rfl) ?_
          refine wp_skip ?_
          refine hK579 _ _ ?_
          clear hK579
          refine wp_seq_k (fun K580 hK580 => ?_)
          refine wp_block ?_
          refine wp_seq_k (fun K581 hK581 => ?_)
          refine wp_region_lit ?_
          refine wpl_op (i := 0) rfl (o_val (v := (.pointer (some ⟨g407, 0 + 1, none⟩))) hF578 rfl rfl rfl rfl (rn_index1 Tryd.underlying38 (by kernel_rfl : (Tryd.prog.info? 30).map (·.size) = some 1) (hF578.get rfl) (hF578.get rfl) (by omega : (0 : Int) ≤ 1) (by omega : (1 : Int) < ((3 : Nat) : Int))) ?_)
          intro a582 hF583; clear hF578
          refine wpl_op (i := 1) rfl (o_val (v := (.slice A387 ((0 + n147) + 1) c388)) hF583 rfl rfl rfl rfl (rn_load (isAgg_no Tryd.underlying30 rfl) (hF583.get rfl) (b436.rule.1 (0 + 1))) ?_)
          intro a584 hF585; clear hF583
          refine wpl_op (i := 2) rfl (o_val (v := (.slice A387 ((0 + n147) + 1) c388)) hF585 rfl rfl rfl rfl (rn_assign (hF585.get rfl)) ?_)
          intro a586 hF587; clear hF585
          refine wpList_nil ?_
          refine hK581 _ _ ?_
          clear hK581
          refine wp_seq_k (fun K588 hK588 => ?_)
          refine wp_region_lit ?_
          refine wpl_op (i := 0) rfl (o_val (v := (.agg (byteVals d).toArray)) hF587 rfl rfl rfl rfl (rn_loadBlk (hF587.get rfl) b432 Tryd.underlying26 rfl ((by kernel_rfl : (Tryd.prog.info? 26).map (·.size) = some 32).trans (congrArg some (byteVals_len hd).symm))) ?_)
          intro a589 hF590; clear hF587
          refine wpl_op (i := 1) rfl (o_val (v := (.int .i64 (([(at_ : Int), ((andI (at_) (15)) : Int)]).getD k1 0))) hF590 rfl rfl rfl rfl (rn_move (hF590.get rfl)) ?_)
          intro a591 hF592; clear hF590
          refine wpl_op (i := 2) rfl (o_val (v := (.int .i64 (([(n : Int), (((digsOf s).length : Nat) : Int)]).getD k2 0))) hF592 rfl rfl rfl rfl (rn_move (hF592.get rfl)) ?_)
          intro a593 hF594; clear hF592
          refine wpl_op (i := 3) rfl (o_val (v := (.slice A387 ((0 + n147) + 1) c388)) hF594 rfl rfl rfl rfl (rn_move (hF594.get rfl)) ?_)
          intro a595 hF596; clear hF594
          refine wpl_op (i := 4) rfl (o_call hF596 rfl rfl rfl rfl (rn_call (args4 (hF596.get rfl) (hF596.get rfl) (hF596.get rfl) (hF596.get rfl)) rfl (by kernel_rfl)) (climb_at d (([(at_ : Int), ((andI (at_) (15)) : Int)]).getD k1 0) (([(n : Int), (((digsOf s).length : Nat) : Int)]).getD k2 0) (((pathF (digsOf s) ((([(at_ : Int), ((andI (at_) (15)) : Int)]).getD k1 0))).1) ++ ([d])) _ (v := (.slice A387 ((0 + n147) + 1) c388)) (m := (0 + n147) + 1) hd (All32.app (pathF_32 (digsOf s) (([(at_ : Int), ((andI (at_) (15)) : Int)]).getD k1 0)) (All32.sing hd)) (Fl.own (S := fun b => w253.heap.size ≤ b) r437 (fun b hb => hb) (digVals_one _)) (hG.ext ((Ext.refl w).trans hx430))) ?_)
          rintro _ w597 ⟨rfl, hx598⟩
          refine ⟨_, rfl, ?_⟩; intro a599 hF600; clear hF596; have z601 := hx598.size
          refine wpl_op (i := 5) rfl (o_val (v := (.tuple #[(.agg (byteVals ((climbF d (([(at_ : Int), ((andI (at_) (15)) : Int)]).getD k1 0) (([(n : Int), (((digsOf s).length : Nat) : Int)]).getD k2 0) (((pathF (digsOf s) ((([(at_ : Int), ((andI (at_) (15)) : Int)]).getD k1 0))).1) ++ ([d]))).1)).toArray), (.int .i64 ((climbF d (([(at_ : Int), ((andI (at_) (15)) : Int)]).getD k1 0) (([(n : Int), (((digsOf s).length : Nat) : Int)]).getD k2 0) (((pathF (digsOf s) ((([(at_ : Int), ((andI (at_) (15)) : Int)]).getD k1 0))).1) ++ ([d]))).2))])) hF600 rfl rfl rfl rfl (rn_move (hF600.get rfl)) ?_)
          intro a602 hF603; clear hF600
          refine wpl_op (i := 6) rfl (o_val (v := (.agg (byteVals ((climbF d (([(at_ : Int), ((andI (at_) (15)) : Int)]).getD k1 0) (([(n : Int), (((digsOf s).length : Nat) : Int)]).getD k2 0) (((pathF (digsOf s) ((([(at_ : Int), ((andI (at_) (15)) : Int)]).getD k1 0))).1) ++ ([d]))).1)).toArray)) hF603 rfl rfl rfl rfl (rn_extract (hF603.get rfl) rfl) ?_)
          intro a604 hF605; clear hF603
          refine wpl_op (i := 7) rfl (o_val (v := (.int .i64 ((climbF d (([(at_ : Int), ((andI (at_) (15)) : Int)]).getD k1 0) (([(n : Int), (((digsOf s).length : Nat) : Int)]).getD k2 0) (((pathF (digsOf s) ((([(at_ : Int), ((andI (at_) (15)) : Int)]).getD k1 0))).1) ++ ([d]))).2))) hF605 rfl rfl rfl rfl (rn_extract (hF605.get rfl) rfl) ?_)
          intro a606 hF607; clear hF605
          have r608 := (own_ext r437 hx598)
          have hf609 := r608
          refine wpl_op (i := 8) rfl (o_new (fun g => (.pointer (some ⟨g, 0, none⟩))) (byteVals (List.replicate 32 0)) 26 hF607 rfl rfl rfl rfl (by kernel_rfl) ?_)
          intro g610 w611 a616 hF617 z614 z615 b612 hx613; clear hF607
          have nb618 := own_new (g := g610) hf609 (by omega)
          refine wpl_op (i := 9) rfl (o_store (cells := (byteVals ((climbF d (([(at_ : Int), ((andI (at_) (15)) : Int)]).getD k1 0) (([(n : Int), (((digsOf s).length : Nat) : Int)]).getD k2 0) (((pathF (digsOf s) ((([(at_ : Int), ((andI (at_) (15)) : Int)]).getD k1 0))).1) ++ ([d]))).1))) hF617 rfl rfl rfl rfl (hF617.get rfl) (hF617.get rfl) b612 ((by kernel_rfl : (Tryd.prog.info? 26).map (·.size) = some 32).trans (congrArg some (byteVals_len (climbF_len _ _ _ _)).symm)) ((byteVals_len (show List.length (List.replicate 32 0) = _ from List.length_replicate)).trans (byteVals_len (climbF_len _ _ _ _)).symm) (byteVals_one _) ?_)
          intro w619 b620 hg621; have z622 := hg621.size
          refine wpl_op (i := 10) rfl (o_val (v := (.int .i64 ((climbF d (([(at_ : Int), ((andI (at_) (15)) : Int)]).getD k1 0) (([(n : Int), (((digsOf s).length : Nat) : Int)]).getD k2 0) (((pathF (digsOf s) ((([(at_ : Int), ((andI (at_) (15)) : Int)]).getD k1 0))).1) ++ ([d]))).2))) hF617 rfl rfl rfl rfl (rn_assign (hF617.get rfl)) ?_)
          intro a623 hF624; clear hF617
          refine wpList_nil ?_
          refine hK588 _ _ ?_
          clear hK588
          have hF625 := (((((((((((((((((((((((((((((((hF624.nil.cons (hF624.get (t := 21) (v := (.int .i64 ((climbF d (([(at_ : Int), ((andI (at_) (15)) : Int)]).getD k1 0) (([(n : Int), (((digsOf s).length : Nat) : Int)]).getD k2 0) (((pathF (digsOf s) ((([(at_ : Int), ((andI (at_) (15)) : Int)]).getD k1 0))).1) ++ ([d]))).2))) rfl)).cons (hF624.get (t := 20) (v := (.pointer (some ⟨g610, 0, none⟩))) rfl)).cons (hF624.get (t := 19) (v := (.slice A387 ((0 + n147) + 1) c388)) rfl)).cons (hF624.get (t := 87) (v := (.bool true)) rfl)).cons (hF624.get (t := 85) (v := (.int .i64 3)) rfl)).cons (hF624.get (t := 84) (v := (.slice (some ⟨g407, 0, none⟩) 3 3)) rfl)).cons (hF624.get (t := 86) (v := (.int .i64 1)) rfl)).cons (hF624.get (t := 69) (v := (.bool (decide (((k2 : Nat) : Int) < (2 : Int))))) rfl)).cons (hF624.get (t := 68) (v := (.int .i64 (k2 : Nat))) rfl)).cons (hF624.get (t := 67) (v := (.int .i64 2)) rfl)).cons (hF624.get (t := 66) (v := (.slice (some ⟨g205, 0, none⟩) 2 2)) rfl)).cons (hF624.get (t := 62) (v := (.bool (decide (((pathF (digsOf s) ((([(at_ : Int), ((andI (at_) (15)) : Int)]).getD k1 0))).2 : Int) ≠ ((pathF (digsOf s) ((([(at_ : Int), ((andI (at_) (15)) : Int)]).getD k1 0))).2 : Int))))) rfl)).cons (hF624.get (t := 39) (v := (.bool (decide (((k1 : Nat) : Int) < (2 : Int))))) rfl)).cons (hF624.get (t := 38) (v := (.int .i64 (k1 : Nat))) rfl)).cons (hF624.get (t := 37) (v := (.int .i64 2)) rfl)).cons (hF624.get (t := 36) (v := (.slice (some ⟨g70, 0, none⟩) 2 2)) rfl)).cons (hF624.get (t := 32) (v := (.bool (!decide (treeD (digsOf s) = treeD (digsOf s))))) rfl)).cons (hF624.get (t := 25) (v := (.bool false)) rfl)).cons (hF624.get (t := 17) (v := (.int .i64 (([(n : Int), (((digsOf s).length : Nat) : Int)]).getD k2 0))) rfl)).cons (hF624.get (t := 15) (v := (.int .i64 ((pathF (digsOf s) ((([(at_ : Int), ((andI (at_) (15)) : Int)]).getD k1 0))).2))) rfl)).cons (hF624.get (t := 14) (v := (.slice A146 n147 c148)) rfl)).cons (hF624.get (t := 13) (v := (.int .i64 ((pathF (digsOf s) ((([(at_ : Int), ((andI (at_) (15)) : Int)]).getD k1 0))).2))) rfl)).cons (hF624.get (t := 12) (v := (.slice A115 n116 c117)) rfl)).cons (hF624.get (t := 11) (v := (.int .i64 (([(at_ : Int), ((andI (at_) (15)) : Int)]).getD k1 0))) rfl)).cons (hF624.get (t := 9) (v := (.slice A25 ((digsOf s).length) c26)) rfl)).cons (hF624.get (t := 8) (v := (.bool false)) rfl)).cons (hF624.get (t := 7) (v := (.pointer (some ⟨g2, 0, none⟩))) rfl)).cons (hF624.get (t := 3) (v := (.agg (byteVals d).toArray)) rfl)).cons (hF624.get (t := 2) (v := (.int .i64 n)) rfl)).cons (hF624.get (t := 1) (v := (.int .i64 at_)) rfl)).cons (hF624.get (t := 0) (v := (.slice A s.length c)) rfl))
          clear hF624
          refine wp_seq_k (fun K626 hK626 => ?_)
          refine wp_region_lit ?_
          have b627 : Blk w619 g2 26 (byteVals d) := (((b432.ext hx598).ext hx613).grownN hg621 (by omega))
          refine wpl_op (i := 0) rfl (o_val (v := (.agg (byteVals d).toArray)) hF625 rfl rfl rfl rfl (rn_loadBlk (hF625.get rfl) b627 Tryd.underlying26 rfl ((by kernel_rfl : (Tryd.prog.info? 26).map (·.size) = some 32).trans (congrArg some (byteVals_len hd).symm))) ?_)
          intro a628 hF629; clear hF625
          refine wpl_op (i := 1) rfl (o_val (v := (.int .i64 (([(at_ : Int), ((andI (at_) (15)) : Int)]).getD k1 0))) hF629 rfl rfl rfl rfl (rn_move (hF629.get rfl)) ?_)
          intro a630 hF631; clear hF629
          refine wpl_op (i := 2) rfl (o_val (v := (.int .i64 (([(n : Int), (((digsOf s).length : Nat) : Int)]).getD k2 0))) hF631 rfl rfl rfl rfl (rn_move (hF631.get rfl)) ?_)
          intro a632 hF633; clear hF631
          refine wpl_op (i := 3) rfl (o_val (v := (.slice A387 ((0 + n147) + 1) c388)) hF633 rfl rfl rfl rfl (rn_move (hF633.get rfl)) ?_)
          intro a634 hF635; clear hF633
          have r636 := (own_grownB (own_ext r608 hx613) hg621 nb618)
          refine wpl_op (i := 4) rfl (o_call hF635 rfl rfl rfl rfl (rn_call (args4 (hF635.get rfl) (hF635.get rfl) (hF635.get rfl) (hF635.get rfl)) rfl (by kernel_rfl)) (rClimb_at d (([(at_ : Int), ((andI (at_) (15)) : Int)]).getD k1 0) (([(n : Int), (((digsOf s).length : Nat) : Int)]).getD k2 0) (((pathF (digsOf s) ((([(at_ : Int), ((andI (at_) (15)) : Int)]).getD k1 0))).1) ++ ([d])) _ (v := (.slice A387 ((0 + n147) + 1) c388)) (m := (0 + n147) + 1) hd (All32.app (pathF_32 (digsOf s) (([(at_ : Int), ((andI (at_) (15)) : Int)]).getD k1 0)) (All32.sing hd)) (Fl.own (S := fun b => w253.heap.size ≤ b) r636 (fun b hb => hb) (digVals_one _))) ?_)
          rintro _ w637 ⟨rfl, hx638⟩
          refine ⟨_, rfl, ?_⟩; intro a639 hF640; clear hF635; have z641 := hx638.size
          refine wpl_op (i := 5) rfl (o_val (v := (.tuple #[(.agg (byteVals ((climbF d (([(at_ : Int), ((andI (at_) (15)) : Int)]).getD k1 0) (([(n : Int), (((digsOf s).length : Nat) : Int)]).getD k2 0) (((pathF (digsOf s) ((([(at_ : Int), ((andI (at_) (15)) : Int)]).getD k1 0))).1) ++ ([d]))).1)).toArray), (.int .i64 ((climbF d (([(at_ : Int), ((andI (at_) (15)) : Int)]).getD k1 0) (([(n : Int), (((digsOf s).length : Nat) : Int)]).getD k2 0) (((pathF (digsOf s) ((([(at_ : Int), ((andI (at_) (15)) : Int)]).getD k1 0))).1) ++ ([d]))).2))])) hF640 rfl rfl rfl rfl (rn_move (hF640.get rfl)) ?_)
          intro a642 hF643; clear hF640
          refine wpl_op (i := 6) rfl (o_val (v := (.agg (byteVals ((climbF d (([(at_ : Int), ((andI (at_) (15)) : Int)]).getD k1 0) (([(n : Int), (((digsOf s).length : Nat) : Int)]).getD k2 0) (((pathF (digsOf s) ((([(at_ : Int), ((andI (at_) (15)) : Int)]).getD k1 0))).1) ++ ([d]))).1)).toArray)) hF643 rfl rfl rfl rfl (rn_extract (hF643.get rfl) rfl) ?_)
          intro a644 hF645; clear hF643
          refine wpl_op (i := 7) rfl (o_val (v := (.int .i64 ((climbF d (([(at_ : Int), ((andI (at_) (15)) : Int)]).getD k1 0) (([(n : Int), (((digsOf s).length : Nat) : Int)]).getD k2 0) (((pathF (digsOf s) ((([(at_ : Int), ((andI (at_) (15)) : Int)]).getD k1 0))).1) ++ ([d]))).2))) hF645 rfl rfl rfl rfl (rn_extract (hF645.get rfl) rfl) ?_)
          intro a646 hF647; clear hF645
          have r648 := (own_ext r636 hx638)
          have hf649 := r648
          refine wpl_op (i := 8) rfl (o_new (fun g => (.pointer (some ⟨g, 0, none⟩))) (byteVals (List.replicate 32 0)) 26 hF647 rfl rfl rfl rfl (by kernel_rfl) ?_)
          intro g650 w651 a656 hF657 z654 z655 b652 hx653; clear hF647
          have nb658 := own_new (g := g650) hf649 (by omega)
          refine wpl_op (i := 9) rfl (o_store (cells := (byteVals ((climbF d (([(at_ : Int), ((andI (at_) (15)) : Int)]).getD k1 0) (([(n : Int), (((digsOf s).length : Nat) : Int)]).getD k2 0) (((pathF (digsOf s) ((([(at_ : Int), ((andI (at_) (15)) : Int)]).getD k1 0))).1) ++ ([d]))).1))) hF657 rfl rfl rfl rfl (hF657.get rfl) (hF657.get rfl) b652 ((by kernel_rfl : (Tryd.prog.info? 26).map (·.size) = some 32).trans (congrArg some (byteVals_len (climbF_len _ _ _ _)).symm)) ((byteVals_len (show List.length (List.replicate 32 0) = _ from List.length_replicate)).trans (byteVals_len (climbF_len _ _ _ _)).symm) (byteVals_one _) ?_)
          intro w659 b660 hg661; have z662 := hg661.size
          refine wpl_op (i := 10) rfl (o_val (v := (.int .i64 ((climbF d (([(at_ : Int), ((andI (at_) (15)) : Int)]).getD k1 0) (([(n : Int), (((digsOf s).length : Nat) : Int)]).getD k2 0) (((pathF (digsOf s) ((([(at_ : Int), ((andI (at_) (15)) : Int)]).getD k1 0))).1) ++ ([d]))).2))) hF657 rfl rfl rfl rfl (rn_assign (hF657.get rfl)) ?_)
          intro a663 hF664; clear hF657
          refine wpList_nil ?_
          refine hK626 _ _ ?_
          clear hK626
          have hF665 := (((((((((((((((((((((((((((((((((hF664.nil.cons (hF664.get (t := 23) (v := (.int .i64 ((climbF d (([(at_ : Int), ((andI (at_) (15)) : Int)]).getD k1 0) (([(n : Int), (((digsOf s).length : Nat) : Int)]).getD k2 0) (((pathF (digsOf s) ((([(at_ : Int), ((andI (at_) (15)) : Int)]).getD k1 0))).1) ++ ([d]))).2))) rfl)).cons (hF664.get (t := 22) (v := (.pointer (some ⟨g650, 0, none⟩))) rfl)).cons (hF664.get (t := 21) (v := (.int .i64 ((climbF d (([(at_ : Int), ((andI (at_) (15)) : Int)]).getD k1 0) (([(n : Int), (((digsOf s).length : Nat) : Int)]).getD k2 0) (((pathF (digsOf s) ((([(at_ : Int), ((andI (at_) (15)) : Int)]).getD k1 0))).1) ++ ([d]))).2))) rfl)).cons (hF664.get (t := 20) (v := (.pointer (some ⟨g610, 0, none⟩))) rfl)).cons (hF664.get (t := 19) (v := (.slice A387 ((0 + n147) + 1) c388)) rfl)).cons (hF664.get (t := 87) (v := (.bool true)) rfl)).cons (hF664.get (t := 85) (v := (.int .i64 3)) rfl)).cons (hF664.get (t := 84) (v := (.slice (some ⟨g407, 0, none⟩) 3 3)) rfl)).cons (hF664.get (t := 86) (v := (.int .i64 1)) rfl)).cons (hF664.get (t := 69) (v := (.bool (decide (((k2 : Nat) : Int) < (2 : Int))))) rfl)).cons (hF664.get (t := 68) (v := (.int .i64 (k2 : Nat))) rfl)).cons (hF664.get (t := 67) (v := (.int .i64 2)) rfl)).cons (hF664.get (t := 66) (v := (.slice (some ⟨g205, 0, none⟩) 2 2)) rfl)).cons (hF664.get (t := 62) (v := (.bool (decide (((pathF (digsOf s) ((([(at_ : Int), ((andI (at_) (15)) : Int)]).getD k1 0))).2 : Int) ≠ ((pathF (digsOf s) ((([(at_ : Int), ((andI (at_) (15)) : Int)]).getD k1 0))).2 : Int))))) rfl)).cons (hF664.get (t := 39) (v := (.bool (decide (((k1 : Nat) : Int) < (2 : Int))))) rfl)).cons (hF664.get (t := 38) (v := (.int .i64 (k1 : Nat))) rfl)).cons (hF664.get (t := 37) (v := (.int .i64 2)) rfl)).cons (hF664.get (t := 36) (v := (.slice (some ⟨g70, 0, none⟩) 2 2)) rfl)).cons (hF664.get (t := 32) (v := (.bool (!decide (treeD (digsOf s) = treeD (digsOf s))))) rfl)).cons (hF664.get (t := 25) (v := (.bool false)) rfl)).cons (hF664.get (t := 17) (v := (.int .i64 (([(n : Int), (((digsOf s).length : Nat) : Int)]).getD k2 0))) rfl)).cons (hF664.get (t := 15) (v := (.int .i64 ((pathF (digsOf s) ((([(at_ : Int), ((andI (at_) (15)) : Int)]).getD k1 0))).2))) rfl)).cons (hF664.get (t := 14) (v := (.slice A146 n147 c148)) rfl)).cons (hF664.get (t := 13) (v := (.int .i64 ((pathF (digsOf s) ((([(at_ : Int), ((andI (at_) (15)) : Int)]).getD k1 0))).2))) rfl)).cons (hF664.get (t := 12) (v := (.slice A115 n116 c117)) rfl)).cons (hF664.get (t := 11) (v := (.int .i64 (([(at_ : Int), ((andI (at_) (15)) : Int)]).getD k1 0))) rfl)).cons (hF664.get (t := 9) (v := (.slice A25 ((digsOf s).length) c26)) rfl)).cons (hF664.get (t := 8) (v := (.bool false)) rfl)).cons (hF664.get (t := 7) (v := (.pointer (some ⟨g2, 0, none⟩))) rfl)).cons (hF664.get (t := 3) (v := (.agg (byteVals d).toArray)) rfl)).cons (hF664.get (t := 2) (v := (.int .i64 n)) rfl)).cons (hF664.get (t := 1) (v := (.int .i64 at_)) rfl)).cons (hF664.get (t := 0) (v := (.slice A s.length c)) rfl))
          clear hF664
          refine wp_seq_k (fun K666 hK666 => ?_)
          refine wp_region_lit ?_
          have b667 : Blk w659 g610 26 (byteVals ((climbF d (([(at_ : Int), ((andI (at_) (15)) : Int)]).getD k1 0) (([(n : Int), (((digsOf s).length : Nat) : Int)]).getD k2 0) (((pathF (digsOf s) ((([(at_ : Int), ((andI (at_) (15)) : Int)]).getD k1 0))).1) ++ ([d]))).1)) := (((b620.ext hx638).ext hx653).grownN hg661 (by omega))
          refine wpl_op (i := 0) rfl (o_val (v := (.agg (byteVals ((climbF d (([(at_ : Int), ((andI (at_) (15)) : Int)]).getD k1 0) (([(n : Int), (((digsOf s).length : Nat) : Int)]).getD k2 0) (((pathF (digsOf s) ((([(at_ : Int), ((andI (at_) (15)) : Int)]).getD k1 0))).1) ++ ([d]))).1)).toArray)) hF665 rfl rfl rfl rfl (rn_loadBlk (hF665.get rfl) b667 Tryd.underlying26 rfl ((by kernel_rfl : (Tryd.prog.info? 26).map (·.size) = some 32).trans (congrArg some (byteVals_len (climbF_len _ _ _ _)).symm))) ?_)
          intro a668 hF669; clear hF665
          refine wpl_op (i := 1) rfl (o_val (v := (.agg (byteVals ((climbF d (([(at_ : Int), ((andI (at_) (15)) : Int)]).getD k1 0) (([(n : Int), (((digsOf s).length : Nat) : Int)]).getD k2 0) (((pathF (digsOf s) ((([(at_ : Int), ((andI (at_) (15)) : Int)]).getD k1 0))).1) ++ ([d]))).1)).toArray)) hF669 rfl rfl rfl rfl (rn_loadBlk (hF669.get rfl) b660 Tryd.underlying26 rfl ((by kernel_rfl : (Tryd.prog.info? 26).map (·.size) = some 32).trans (congrArg some (byteVals_len (climbF_len _ _ _ _)).symm))) ?_)
          intro a670 hF671; clear hF669
          refine wpl_op (i := 2) rfl (o_val (v := (.bool (!decide ((climbF d (([(at_ : Int), ((andI (at_) (15)) : Int)]).getD k1 0) (([(n : Int), (((digsOf s).length : Nat) : Int)]).getD k2 0) (((pathF (digsOf s) ((([(at_ : Int), ((andI (at_) (15)) : Int)]).getD k1 0))).1) ++ ([d]))).1 = (climbF d (([(at_ : Int), ((andI (at_) (15)) : Int)]).getD k1 0) (([(n : Int), (((digsOf s).length : Nat) : Int)]).getD k2 0) (((pathF (digsOf s) ((([(at_ : Int), ((andI (at_) (15)) : Int)]).getD k1 0))).1) ++ ([d]))).1)))) hF671 rfl rfl rfl rfl (rn_neA Tryd.underlying26 Tryd.underlying5 (by kernel_rfl : (Tryd.prog.info? 5).map (·.size) = some 1) (by kernel_rfl) (hF671.get rfl) (hF671.get rfl) (climbF_len _ _ _ _) (climbF_len _ _ _ _)) ?_)
          intro a672 hF673; clear hF671
          refine wpl_op (i := 3) rfl (o_val (v := (.bool (!decide ((climbF d (([(at_ : Int), ((andI (at_) (15)) : Int)]).getD k1 0) (([(n : Int), (((digsOf s).length : Nat) : Int)]).getD k2 0) (((pathF (digsOf s) ((([(at_ : Int), ((andI (at_) (15)) : Int)]).getD k1 0))).1) ++ ([d]))).1 = (climbF d (([(at_ : Int), ((andI (at_) (15)) : Int)]).getD k1 0) (([(n : Int), (((digsOf s).length : Nat) : Int)]).getD k2 0) (((pathF (digsOf s) ((([(at_ : Int), ((andI (at_) (15)) : Int)]).getD k1 0))).1) ++ ([d]))).1)))) hF673 rfl rfl rfl rfl (rn_move (hF673.get rfl)) ?_)
          intro a674 hF675; clear hF673
          refine wpl_op (i := 4) rfl (o_val (v := (.int .i64 ((climbF d (([(at_ : Int), ((andI (at_) (15)) : Int)]).getD k1 0) (([(n : Int), (((digsOf s).length : Nat) : Int)]).getD k2 0) (((pathF (digsOf s) ((([(at_ : Int), ((andI (at_) (15)) : Int)]).getD k1 0))).1) ++ ([d]))).2))) hF675 rfl (wanted_guard rfl rfl rfl hF675 rfl (not_t ((decide_eq_true rfl) : decide ((climbF d (([(at_ : Int), ((andI (at_) (15)) : Int)]).getD k1 0) (([(n : Int), (((digsOf s).length : Nat) : Int)]).getD k2 0) (((pathF (digsOf s) ((([(at_ : Int), ((andI (at_) (15)) : Int)]).getD k1 0))).1) ++ ([d]))).1 = (climbF d (([(at_ : Int), ((andI (at_) (15)) : Int)]).getD k1 0) (([(n : Int), (((digsOf s).length : Nat) : Int)]).getD k2 0) (((pathF (digsOf s) ((([(at_ : Int), ((andI (at_) (15)) : Int)]).getD k1 0))).1) ++ ([d]))).1) = true)) rfl) rfl rfl (rn_move (hF675.get rfl)) ?_)
          intro a677 hF678; clear hF675
          refine wpl_op (i := 5) rfl (o_val (v := (.int .i64 ((climbF d (([(at_ : Int), ((andI (at_) (15)) : Int)]).getD k1 0) (([(n : Int), (((digsOf s).length : Nat) : Int)]).getD k2 0) (((pathF (digsOf s) ((([(at_ : Int), ((andI (at_) (15)) : Int)]).getD k1 0))).1) ++ ([d]))).2))) hF678 rfl (wanted_guard rfl rfl rfl hF678 rfl (not_t ((decide_eq_true rfl) : decide ((climbF d (([(at_ : Int), ((andI (at_) (15)) : Int)]).getD k1 0) (([(n : Int), (((digsOf s).length : Nat) : Int)]).getD k2 0) (((pathF (digsOf s) ((([(at_ : Int), ((andI (at_) (15)) : Int)]).getD k1 0))).1) ++ ([d]))).1 = (climbF d (([(at_ : Int), ((andI (at_) (15)) : Int)]).getD k1 0) (([(n : Int), (((digsOf s).length : Nat) : Int)]).getD k2 0) (((pathF (digsOf s) ((([(at_ : Int), ((andI (at_) (15)) : Int)]).getD k1 0))).1) ++ ([d]))).1) = true)) rfl) rfl rfl (rn_move (hF678.get rfl)) ?_)
          intro a679 hF680; clear hF678
          refine wpl_op (i := 6) rfl (o_val (v := (.bool (decide (((climbF d (([(at_ : Int), ((andI (at_) (15)) : Int)]).getD k1 0) (([(n : Int), (((digsOf s).length : Nat) : Int)]).getD k2 0) (((pathF (digsOf s) ((([(at_ : Int), ((andI (at_) (15)) : Int)]).getD k1 0))).1) ++ ([d]))).2 : Int) ≠ ((climbF d (([(at_ : Int), ((andI (at_) (15)) : Int)]).getD k1 0) (([(n : Int), (((digsOf s).length : Nat) : Int)]).getD k2 0) (((pathF (digsOf s) ((([(at_ : Int), ((andI (at_) (15)) : Int)]).getD k1 0))).1) ++ ([d]))).2 : Int))))) hF680 rfl (wanted_guard rfl rfl rfl hF680 rfl (not_t ((decide_eq_true rfl) : decide ((climbF d (([(at_ : Int), ((andI (at_) (15)) : Int)]).getD k1 0) (([(n : Int), (((digsOf s).length : Nat) : Int)]).getD k2 0) (((pathF (digsOf s) ((([(at_ : Int), ((andI (at_) (15)) : Int)]).getD k1 0))).1) ++ ([d]))).1 = (climbF d (([(at_ : Int), ((andI (at_) (15)) : Int)]).getD k1 0) (([(n : Int), (((digsOf s).length : Nat) : Int)]).getD k2 0) (((pathF (digsOf s) ((([(at_ : Int), ((andI (at_) (15)) : Int)]).getD k1 0))).1) ++ ([d]))).1) = true)) rfl) rfl rfl (rn_neq (hF680.get rfl) (hF680.get rfl)) ?_)
          intro a681 hF682; clear hF680
          refine wpl_op (i := 7) rfl (o_val (v := (.bool (decide (((climbF d (([(at_ : Int), ((andI (at_) (15)) : Int)]).getD k1 0) (([(n : Int), (((digsOf s).length : Nat) : Int)]).getD k2 0) (((pathF (digsOf s) ((([(at_ : Int), ((andI (at_) (15)) : Int)]).getD k1 0))).1) ++ ([d]))).2 : Int) ≠ ((climbF d (([(at_ : Int), ((andI (at_) (15)) : Int)]).getD k1 0) (([(n : Int), (((digsOf s).length : Nat) : Int)]).getD k2 0) (((pathF (digsOf s) ((([(at_ : Int), ((andI (at_) (15)) : Int)]).getD k1 0))).1) ++ ([d]))).2 : Int))))) hF682 rfl rfl rfl rfl (rn_pickF (c_false hF682 rfl (not_t ((decide_eq_true rfl) : decide ((climbF d (([(at_ : Int), ((andI (at_) (15)) : Int)]).getD k1 0) (([(n : Int), (((digsOf s).length : Nat) : Int)]).getD k2 0) (((pathF (digsOf s) ((([(at_ : Int), ((andI (at_) (15)) : Int)]).getD k1 0))).1) ++ ([d]))).1 = (climbF d (([(at_ : Int), ((andI (at_) (15)) : Int)]).getD k1 0) (([(n : Int), (((digsOf s).length : Nat) : Int)]).getD k2 0) (((pathF (digsOf s) ((([(at_ : Int), ((andI (at_) (15)) : Int)]).getD k1 0))).1) ++ ([d]))).1) = true))) (hF682.get rfl)) ?_)
          intro a683 hF684; clear hF682
          refine wpList_nil ?_
          refine hK666 _ _ ?_
          clear hK666
          have hF685 := ((((((((((((((((((((((((((((((((((hF684.nil.cons (hF684.get (t := 113) (v := (.bool (decide (((climbF d (([(at_ : Int), ((andI (at_) (15)) : Int)]).getD k1 0) (([(n : Int), (((digsOf s).length : Nat) : Int)]).getD k2 0) (((pathF (digsOf s) ((([(at_ : Int), ((andI (at_) (15)) : Int)]).getD k1 0))).1) ++ ([d]))).2 : Int) ≠ ((climbF d (([(at_ : Int), ((andI (at_) (15)) : Int)]).getD k1 0) (([(n : Int), (((digsOf s).length : Nat) : Int)]).getD k2 0) (((pathF (digsOf s) ((([(at_ : Int), ((andI (at_) (15)) : Int)]).getD k1 0))).1) ++ ([d]))).2 : Int))))) rfl)).cons (hF684.get (t := 23) (v := (.int .i64 ((climbF d (([(at_ : Int), ((andI (at_) (15)) : Int)]).getD k1 0) (([(n : Int), (((digsOf s).length : Nat) : Int)]).getD k2 0) (((pathF (digsOf s) ((([(at_ : Int), ((andI (at_) (15)) : Int)]).getD k1 0))).1) ++ ([d]))).2))) rfl)).cons (hF684.get (t := 22) (v := (.pointer (some ⟨g650, 0, none⟩))) rfl)).cons (hF684.get (t := 21) (v := (.int .i64 ((climbF d (([(at_ : Int), ((andI (at_) (15)) : Int)]).getD k1 0) (([(n : Int), (((digsOf s).length : Nat) : Int)]).getD k2 0) (((pathF (digsOf s) ((([(at_ : Int), ((andI (at_) (15)) : Int)]).getD k1 0))).1) ++ ([d]))).2))) rfl)).cons (hF684.get (t := 20) (v := (.pointer (some ⟨g610, 0, none⟩))) rfl)).cons (hF684.get (t := 19) (v := (.slice A387 ((0 + n147) + 1) c388)) rfl)).cons (hF684.get (t := 87) (v := (.bool true)) rfl)).cons (hF684.get (t := 85) (v := (.int .i64 3)) rfl)).cons (hF684.get (t := 84) (v := (.slice (some ⟨g407, 0, none⟩) 3 3)) rfl)).cons (hF684.get (t := 86) (v := (.int .i64 1)) rfl)).cons (hF684.get (t := 69) (v := (.bool (decide (((k2 : Nat) : Int) < (2 : Int))))) rfl)).cons (hF684.get (t := 68) (v := (.int .i64 (k2 : Nat))) rfl)).cons (hF684.get (t := 67) (v := (.int .i64 2)) rfl)).cons (hF684.get (t := 66) (v := (.slice (some ⟨g205, 0, none⟩) 2 2)) rfl)).cons (hF684.get (t := 62) (v := (.bool (decide (((pathF (digsOf s) ((([(at_ : Int), ((andI (at_) (15)) : Int)]).getD k1 0))).2 : Int) ≠ ((pathF (digsOf s) ((([(at_ : Int), ((andI (at_) (15)) : Int)]).getD k1 0))).2 : Int))))) rfl)).cons (hF684.get (t := 39) (v := (.bool (decide (((k1 : Nat) : Int) < (2 : Int))))) rfl)).cons (hF684.get (t := 38) (v := (.int .i64 (k1 : Nat))) rfl)).cons (hF684.get (t := 37) (v := (.int .i64 2)) rfl)).cons (hF684.get (t := 36) (v := (.slice (some ⟨g70, 0, none⟩) 2 2)) rfl)).cons (hF684.get (t := 32) (v := (.bool (!decide (treeD (digsOf s) = treeD (digsOf s))))) rfl)).cons (hF684.get (t := 25) (v := (.bool false)) rfl)).cons (hF684.get (t := 17) (v := (.int .i64 (([(n : Int), (((digsOf s).length : Nat) : Int)]).getD k2 0))) rfl)).cons (hF684.get (t := 15) (v := (.int .i64 ((pathF (digsOf s) ((([(at_ : Int), ((andI (at_) (15)) : Int)]).getD k1 0))).2))) rfl)).cons (hF684.get (t := 14) (v := (.slice A146 n147 c148)) rfl)).cons (hF684.get (t := 13) (v := (.int .i64 ((pathF (digsOf s) ((([(at_ : Int), ((andI (at_) (15)) : Int)]).getD k1 0))).2))) rfl)).cons (hF684.get (t := 12) (v := (.slice A115 n116 c117)) rfl)).cons (hF684.get (t := 11) (v := (.int .i64 (([(at_ : Int), ((andI (at_) (15)) : Int)]).getD k1 0))) rfl)).cons (hF684.get (t := 9) (v := (.slice A25 ((digsOf s).length) c26)) rfl)).cons (hF684.get (t := 8) (v := (.bool false)) rfl)).cons (hF684.get (t := 7) (v := (.pointer (some ⟨g2, 0, none⟩))) rfl)).cons (hF684.get (t := 3) (v := (.agg (byteVals d).toArray)) rfl)).cons (hF684.get (t := 2) (v := (.int .i64 n)) rfl)).cons (hF684.get (t := 1) (v := (.int .i64 at_)) rfl)).cons (hF684.get (t := 0) (v := (.slice A s.length c)) rfl))
          clear hF684
          refine wp_cond_false (c_false hF685 rfl ((decide_eq_false (by simp)) : decide (((climbF d (([(at_ : Int), ((andI (at_) (15)) : Int)]).getD k1 0) (([(n : Int), (((digsOf s).length : Nat) : Int)]).getD k2 0) (((pathF (digsOf s) ((([(at_ : Int), ((andI (at_) (15)) : Int)]).getD k1 0))).1) ++ ([d]))).2 : Int) ≠ ((climbF d (([(at_ : Int), ((andI (at_) (15)) : Int)]).getD k1 0) (([(n : Int), (((digsOf s).length : Nat) : Int)]).getD k2 0) (((pathF (digsOf s) ((([(at_ : Int), ((andI (at_) (15)) : Int)]).getD k1 0))).1) ++ ([d]))).2 : Int)) = false)) ?_
          refine wp_skip ?_
          refine hK580 _ _ ?_
          clear hK580
          refine wp_region_lit ?_
          refine wpl_op (i := 0) rfl (o_val (v := (.int .i64 2)) hF685 rfl rfl rfl rfl (rn_add (hF685.get rfl) rfl (by omega) (by omega)) ?_)
          intro a687 hF688; clear hF685
          refine wpl_op (i := 1) rfl (o_val (v := (.int .i64 2)) hF688 rfl rfl rfl rfl (rn_move (hF688.get rfl)) ?_)
          intro a689 hF690; clear hF688
          refine wpList_nil ?_
          have d691 := (hf438.pres (((((((Pres.refl w428).ext hx598).ext hx613).grownN hg621 (fun h => by simp only [Clip] at h; omega)).ext hx638).ext hx653).grownN hg661 (fun h => by simp only [Clip] at h; omega)))
          have d692 := (hf439.pres (((((((Pres.refl w428).ext hx598).ext hx613).grownN hg621 (fun h => by simp only [Clip] at h; omega)).ext hx638).ext hx653).grownN hg661 (fun h => by simp only [Clip] at h; omega)))
          have d693 := (hf440.pres (((((((Pres.refl w428).ext hx598).ext hx613).grownN hg621 (fun h => by simp only [Clip] at h; omega)).ext hx638).ext hx653).grownN hg661 (fun h => by simp only [Clip] at h; omega)))
          have b694 : Blk w659 g2 26 (byteVals d) := (((b627.ext hx638).ext hx653).grownN hg661 (by omega))
          have b695 : Blk w659 g70 3 (intVals [(at_ : Int), ((andI (at_) (15)) : Int)]) := ((((((b433.ext hx598).ext hx613).grownN hg621 (by omega)).ext hx638).ext hx653).grownN hg661 (by omega))
          have b696 : Blk w659 g205 3 (intVals [(n : Int), (((digsOf s).length : Nat) : Int)]) := ((((((b434.ext hx598).ext hx613).grownN hg621 (by omega)).ext hx638).ext hx653).grownN hg661 (by omega))
          have b697 : Blk w659 g313 26 (byteVals (d)) := ((((((b435.ext hx598).ext hx613).grownN hg621 (by omega)).ext hx638).ext hx653).grownN hg661 (by omega))
          have b698 : Blk w659 g407 30 [(.slice A146 n147 c148), (.slice A387 ((0 + n147) + 1) c388), (.slice A146 (n147 / 2) c148)] := ((((((b436.ext hx598).ext hx613).grownN hg621 (by omega)).ext hx638).ext hx653).grownN hg661 (by omega))
          have r699 := (own_grownB (own_ext r648 hx653) hg661 nb658)
          refine ⟨⟨2, (((((((((((((((((((((((((((hF690.nil.cons (q_get hF690 (t := 85) rfl rfl)).cons (q_get hF690 (t := 84) rfl rfl)).cons (q_get hF690 (t := 86) rfl (by first | rfl | (congr 1; omega) | (congr 1; done)))).cons (q_get hF690 (t := 69) rfl rfl)).cons (q_get hF690 (t := 68) rfl rfl)).cons (q_get hF690 (t := 67) rfl rfl)).cons (q_get hF690 (t := 66) rfl rfl)).cons (q_get hF690 (t := 62) rfl rfl)).cons (q_get hF690 (t := 39) rfl rfl)).cons (q_get hF690 (t := 38) rfl rfl)).cons (q_get hF690 (t := 37) rfl rfl)).cons (q_get hF690 (t := 36) rfl rfl)).cons (q_get hF690 (t := 32) rfl rfl)).cons (q_get hF690 (t := 25) rfl rfl)).cons (q_get hF690 (t := 17) rfl rfl)).cons (q_get hF690 (t := 15) rfl rfl)).cons (q_get hF690 (t := 14) rfl rfl)).cons (q_get hF690 (t := 13) rfl rfl)).cons (q_get hF690 (t := 12) rfl rfl)).cons (q_get hF690 (t := 11) rfl rfl)).cons (q_get hF690 (t := 9) rfl rfl)).cons (q_get hF690 (t := 8) rfl rfl)).cons (q_get hF690 (t := 7) rfl rfl)).cons (q_get hF690 (t := 3) rfl rfl)).cons (q_get hF690 (t := 2) rfl rfl)).cons (q_get hF690 (t := 1) rfl rfl)).cons (q_get hF690 (t := 0) rfl rfl)), (by omega), ((((((((Ext.refl w).trans hx430).trans hx598).trans hx613).grownN hg621 (by omega)).trans hx638).trans hx653).grownN hg661 (by omega)), b694, b695, b696, b697, b698, r699, d691, d692, d693, (by omega), (by omega)⟩, ?_⟩
          rw [hF690.get (t := 86) rfl, hL443.get (t := 86) rfl]; simp [intOf] <;> omega
        · subst hk451
          refine wp_seq_k (fun K700 hK700 => ?_)
          refine wp_region_lit ?_
          refine wpl_op (i := 0) rfl (o_val (v := (.bool true)) hF429 rfl rfl rfl rfl (rn_lss' (hF429.get rfl) (hF429.get rfl) (by decide)) ?_)
          intro a701 hF702; clear hF429
          refine wpList_nil ?_
          refine hK700 _ _ ?_
          clear hK700
          refine wp_seq_k (fun K703 hK703 => ?_)
          refine wp_cond_true (c_true hF702 rfl rfl) ?_
          refine wp_skip ?_
          refine hK703 _ _ ?_
          clear hK703
          refine wp_seq_k (fun K704 hK704 => ?_)
          refine wp_block ?_
          refine wp_seq_k (fun K705 hK705 => ?_)
          refine wp_region_lit ?_
          refine wpl_op (i := 0) rfl (o_val (v := (.pointer (some ⟨g407, 0 + 2, none⟩))) hF702 rfl rfl rfl rfl (rn_index1 Tryd.underlying38 (by kernel_rfl : (Tryd.prog.info? 30).map (·.size) = some 1) (hF702.get rfl) (hF702.get rfl) (by omega : (0 : Int) ≤ 2) (by omega : (2 : Int) < ((3 : Nat) : Int))) ?_)
          intro a706 hF707; clear hF702
          refine wpl_op (i := 1) rfl (o_val (v := (.slice A146 (n147 / 2) c148)) hF707 rfl rfl rfl rfl (rn_load (isAgg_no Tryd.underlying30 rfl) (hF707.get rfl) (b436.rule.1 (0 + 2))) ?_)
          intro a708 hF709; clear hF707
          refine wpl_op (i := 2) rfl (o_val (v := (.slice A146 (n147 / 2) c148)) hF709 rfl rfl rfl rfl (rn_assign (hF709.get rfl)) ?_)
          intro a710 hF711; clear hF709
          refine wpList_nil ?_
          refine hK705 _ _ ?_
          clear hK705
          refine wp_seq_k (fun K712 hK712 => ?_)
          refine wp_region_lit ?_
          refine wpl_op (i := 0) rfl (o_val (v := (.agg (byteVals d).toArray)) hF711 rfl rfl rfl rfl (rn_loadBlk (hF711.get rfl) b432 Tryd.underlying26 rfl ((by kernel_rfl : (Tryd.prog.info? 26).map (·.size) = some 32).trans (congrArg some (byteVals_len hd).symm))) ?_)
          intro a713 hF714; clear hF711
          refine wpl_op (i := 1) rfl (o_val (v := (.int .i64 (([(at_ : Int), ((andI (at_) (15)) : Int)]).getD k1 0))) hF714 rfl rfl rfl rfl (rn_move (hF714.get rfl)) ?_)
          intro a715 hF716; clear hF714
          refine wpl_op (i := 2) rfl (o_val (v := (.int .i64 (([(n : Int), (((digsOf s).length : Nat) : Int)]).getD k2 0))) hF716 rfl rfl rfl rfl (rn_move (hF716.get rfl)) ?_)
          intro a717 hF718; clear hF716
          refine wpl_op (i := 3) rfl (o_val (v := (.slice A146 (n147 / 2) c148)) hF718 rfl rfl rfl rfl (rn_move (hF718.get rfl)) ?_)
          intro a719 hF720; clear hF718
          refine wpl_op (i := 4) rfl (o_call hF720 rfl rfl rfl rfl (rn_call (args4 (hF720.get rfl) (hF720.get rfl) (hF720.get rfl) (hF720.get rfl)) rfl (by kernel_rfl)) (climb_at d (([(at_ : Int), ((andI (at_) (15)) : Int)]).getD k1 0) (([(n : Int), (((digsOf s).length : Nat) : Int)]).getD k2 0) (((pathF (digsOf s) ((([(at_ : Int), ((andI (at_) (15)) : Int)]).getD k1 0))).1).take (n147 / 2)) _ (v := (.slice A146 (n147 / 2) c148)) (m := (n147 / 2)) hd (All32.take (pathF_32 (digsOf s) (([(at_ : Int), ((andI (at_) (15)) : Int)]).getD k1 0)) _) (Fl.take_eq (j := (n147 / 2)) hf440 (by omega) (digVals_take (pathF_32 (digsOf s) (([(at_ : Int), ((andI (at_) (15)) : Int)]).getD k1 0)) _)) (hG.ext ((Ext.refl w).trans hx430))) ?_)
          rintro _ w721 ⟨rfl, hx722⟩
          refine ⟨_, rfl, ?_⟩; intro a723 hF724; clear hF720; have z725 := hx722.size
          refine wpl_op (i := 5) rfl (o_val (v := (.tuple #[(.agg (byteVals ((climbF d (([(at_ : Int), ((andI (at_) (15)) : Int)]).getD k1 0) (([(n : Int), (((digsOf s).length : Nat) : Int)]).getD k2 0) (((pathF (digsOf s) ((([(at_ : Int), ((andI (at_) (15)) : Int)]).getD k1 0))).1).take (n147 / 2))).1)).toArray), (.int .i64 ((climbF d (([(at_ : Int), ((andI (at_) (15)) : Int)]).getD k1 0) (([(n : Int), (((digsOf s).length : Nat) : Int)]).getD k2 0) (((pathF (digsOf s) ((([(at_ : Int), ((andI (at_) (15)) : Int)]).getD k1 0))).1).take (n147 / 2))).2))])) hF724 rfl rfl rfl rfl (rn_move (hF724.get rfl)) ?_)
          intro a726 hF727; clear hF724
          refine wpl_op (i := 6) rfl (o_val (v := (.agg (byteVals ((climbF d (([(at_ : Int), ((andI (at_) (15)) : Int)]).getD k1 0) (([(n : Int), (((digsOf s).length : Nat) : Int)]).getD k2 0) (((pathF (digsOf s) ((([(at_ : Int), ((andI (at_) (15)) : Int)]).getD k1 0))).1).take (n147 / 2))).1)).toArray)) hF727 rfl rfl rfl rfl (rn_extract (hF727.get rfl) rfl) ?_)
          intro a728 hF729; clear hF727
          refine wpl_op (i := 7) rfl (o_val (v := (.int .i64 ((climbF d (([(at_ : Int), ((andI (at_) (15)) : Int)]).getD k1 0) (([(n : Int), (((digsOf s).length : Nat) : Int)]).getD k2 0) (((pathF (digsOf s) ((([(at_ : Int), ((andI (at_) (15)) : Int)]).getD k1 0))).1).take (n147 / 2))).2))) hF729 rfl rfl rfl rfl (rn_extract (hF729.get rfl) rfl) ?_)
          intro a730 hF731; clear hF729
          have r732 := (own_ext r437 hx722)
          have hf733 := r732
          refine wpl_op (i := 8) rfl (o_new (fun g => (.pointer (some ⟨g, 0, none⟩))) (byteVals (List.replicate 32 0)) 26 hF731 rfl rfl rfl rfl (by kernel_rfl) ?_)
          intro g734 w735 a740 hF741 z738 z739 b736 hx737; clear hF731
          have nb742 := own_new (g := g734) hf733 (by omega)
          refine wpl_op (i := 9) rfl (o_store (cells := (byteVals ((climbF d (([(at_ : Int), ((andI (at_) (15)) : Int)]).getD k1 0) (([(n : Int), (((digsOf s).length : Nat) : Int)]).getD k2 0) (((pathF (digsOf s) ((([(at_ : Int), ((andI (at_) (15)) : Int)]).getD k1 0))).1).take (n147 / 2))).1))) hF741 rfl rfl rfl rfl (hF741.get rfl) (hF741.get rfl) b736 ((by kernel_rfl : (Tryd.prog.info? 26).map (·.size) = some 32).trans (congrArg some (byteVals_len (climbF_len _ _ _ _)).symm)) ((byteVals_len (show List.length (List.replicate 32 0) = _ from List.length_replicate)).trans (byteVals_len (climbF_len _ _ _ _)).symm) (byteVals_one _) ?_)
          intro w743 b744 hg745; have z746 := hg745.size
          refine wpl_op (i := 10) rfl (o_val (v := (.int .i64 ((climbF d (([(at_ : Int), ((andI (at_) (15)) : Int)]).getD k1 0) (([(n : Int), (((digsOf s).length : Nat) : Int)]).getD k2 0) (((pathF (digsOf s) ((([(at_ : Int), ((andI (at_) (15)) : Int)]).getD k1 0))).1).take (n147 / 2))).2))) hF741 rfl rfl rfl rfl (rn_assign (hF741.get rfl)) ?_)
          intro a747 hF748; clear hF741
          refine wpList_nil ?_
          refine hK712 _ _ ?_
          clear hK712
          have hF749 := (((((((((((((((((((((((((((((((hF748.nil.cons (hF748.get (t := 21) (v := (.int .i64 ((climbF d (([(at_ : Int), ((andI (at_) (15)) : Int)]).getD k1 0) (([(n : Int), (((digsOf s).length : Nat) : Int)]).getD k2 0) (((pathF (digsOf s) ((([(at_ : Int), ((andI (at_) (15)) : Int)]).getD k1 0))).1).take (n147 / 2))).2))) rfl)).cons (hF748.get (t := 20) (v := (.pointer (some ⟨g734, 0, none⟩))) rfl)).cons (hF748.get (t := 19) (v := (.slice A146 (n147 / 2) c148)) rfl)).cons (hF748.get (t := 87) (v := (.bool true)) rfl)).cons (hF748.get (t := 85) (v := (.int .i64 3)) rfl)).cons (hF748.get (t := 84) (v := (.slice (some ⟨g407, 0, none⟩) 3 3)) rfl)).cons (hF748.get (t := 86) (v := (.int .i64 2)) rfl)).cons (hF748.get (t := 69) (v := (.bool (decide (((k2 : Nat) : Int) < (2 : Int))))) rfl)).cons (hF748.get (t := 68) (v := (.int .i64 (k2 : Nat))) rfl)).cons (hF748.get (t := 67) (v := (.int .i64 2)) rfl)).cons (hF748.get (t := 66) (v := (.slice (some ⟨g205, 0, none⟩) 2 2)) rfl)).cons (hF748.get (t := 62) (v := (.bool (decide (((pathF (digsOf s) ((([(at_ : Int), ((andI (at_) (15)) : Int)]).getD k1 0))).2 : Int) ≠ ((pathF (digsOf s) ((([(at_ : Int), ((andI (at_) (15)) : Int)]).getD k1 0))).2 : Int))))) rfl)).cons (hF748.get (t := 39) (v := (.bool (decide (((k1 : Nat) : Int) < (2 : Int))))) rfl)).cons (hF748.get (t := 38) (v := (.int .i64 (k1 : Nat))) rfl)).cons (hF748.get (t := 37) (v := (.int .i64 2)) rfl)).cons (hF748.get (t := 36) (v := (.slice (some ⟨g70, 0, none⟩) 2 2)) rfl)).cons (hF748.get (t := 32) (v := (.bool (!decide (treeD (digsOf s) = treeD (digsOf s))))) rfl)).cons (hF748.get (t := 25) (v := (.bool false)) rfl)).cons (hF748.get (t := 17) (v := (.int .i64 (([(n : Int), (((digsOf s).length : Nat) : Int)]).getD k2 0))) rfl)).cons (hF748.get (t := 15) (v := (.int .i64 ((pathF (digsOf s) ((([(at_ : Int), ((andI (at_) (15)) : Int)]).getD k1 0))).2))) rfl)).cons (hF748.get (t := 14) (v := (.slice A146 n147 c148)) rfl)).cons (hF748.get (t := 13) (v := (.int .i64 ((pathF (digsOf s) ((([(at_ : Int), ((andI (at_) (15)) : Int)]).getD k1 0))).2))) rfl)).cons (hF748.get (t := 12) (v := (.slice A115 n116 c117)) rfl)).cons (hF748.get (t := 11) (v := (.int .i64 (([(at_ : Int), ((andI (at_) (15)) : Int)]).getD k1 0))) rfl)).cons (hF748.get (t := 9) (v := (.slice A25 ((digsOf s).length) c26)) rfl)).cons (hF748.get (t := 8) (v := (.bool false)) rfl)).cons (hF748.get (t := 7) (v := (.pointer (some ⟨g2, 0, none⟩))) rfl)).cons (hF748.get (t := 3) (v := (.agg (byteVals d).toArray)) rfl)).cons (hF748.get (t := 2) (v := (.int .i64 n)) rfl)).cons (hF748.get (t := 1) (v := (.int .i64 at_)) rfl)).cons (hF748.get (t := 0) (v := (.slice A s.length c)) rfl))
          clear hF748
          refine wp_seq_k (fun K750 hK750 => ?_)
          refine wp_region_lit ?_
          have b751 : Blk w743 g2 26 (byteVals d) := (((b432.ext hx722).ext hx737).grownN hg745 (by omega))
          refine wpl_op (i := 0) rfl (o_val (v := (.agg (byteVals d).toArray)) hF749 rfl rfl rfl rfl (rn_loadBlk (hF749.get rfl) b751 Tryd.underlying26 rfl ((by kernel_rfl : (Tryd.prog.info? 26).map (·.size) = some 32).trans (congrArg some (byteVals_len hd).symm))) ?_)
          intro a752 hF753; clear hF749
          refine wpl_op (i := 1) rfl (o_val (v := (.int .i64 (([(at_ : Int), ((andI (at_) (15)) : Int)]).getD k1 0))) hF753 rfl rfl rfl rfl (rn_move (hF753.get rfl)) ?_)
          intro a754 hF755; clear hF753
          refine wpl_op (i := 2) rfl (o_val (v := (.int .i64 (([(n : Int), (((digsOf s).length : Nat) : Int)]).getD k2 0))) hF755 rfl rfl rfl rfl (rn_move (hF755.get rfl)) ?_)
          intro a756 hF757; clear hF755
          refine wpl_op (i := 3) rfl (o_val (v := (.slice A146 (n147 / 2) c148)) hF757 rfl rfl rfl rfl (rn_move (hF757.get rfl)) ?_)
          intro a758 hF759; clear hF757
          have d760 := (hf440.pres ((((Pres.refl w428).ext hx722).ext hx737).grownN hg745 (fun h => by simp only [Clip] at h; omega)))
          refine wpl_op (i := 4) rfl (o_call hF759 rfl rfl rfl rfl (rn_call (args4 (hF759.get rfl) (hF759.get rfl) (hF759.get rfl) (hF759.get rfl)) rfl (by kernel_rfl)) (rClimb_at d (([(at_ : Int), ((andI (at_) (15)) : Int)]).getD k1 0) (([(n : Int), (((digsOf s).length : Nat) : Int)]).getD k2 0) (((pathF (digsOf s) ((([(at_ : Int), ((andI (at_) (15)) : Int)]).getD k1 0))).1).take (n147 / 2)) _ (v := (.slice A146 (n147 / 2) c148)) (m := (n147 / 2)) hd (All32.take (pathF_32 (digsOf s) (([(at_ : Int), ((andI (at_) (15)) : Int)]).getD k1 0)) _) (Fl.take_eq (j := (n147 / 2)) d760 (by omega) (digVals_take (pathF_32 (digsOf s) (([(at_ : Int), ((andI (at_) (15)) : Int)]).getD k1 0)) _))) ?_)
          rintro _ w761 ⟨rfl, hx762⟩
          refine ⟨_, rfl, ?_⟩; intro a763 hF764; clear hF759; have z765 := hx762.size
          refine wpl_op (i := 5) rfl (o_val (v := (.tuple #[(.agg (byteVals ((climbF d (([(at_ : Int), ((andI (at_) (15)) : Int)]).getD k1 0) (([(n : Int), (((digsOf s).length : Nat) : Int)]).getD k2 0) (((pathF (digsOf s) ((([(at_ : Int), ((andI (at_) (15)) : Int)]).getD k1 0))).1).take (n147 / 2))).1)).toArray), (.int .i64 ((climbF d (([(at_ : Int), ((andI (at_) (15)) : Int)]).getD k1 0) (([(n : Int), (((digsOf s).length : Nat) : Int)]).getD k2 0) (((pathF (digsOf s) ((([(at_ : Int), ((andI (at_) (15)) : Int)]).getD k1 0))).1).take (n147 / 2))).2))])) hF764 rfl rfl rfl rfl (rn_move (hF764.get rfl)) ?_)
          intro a766 hF767; clear hF764
          refine wpl_op (i := 6) rfl (o_val (v := (.agg (byteVals ((climbF d (([(at_ : Int), ((andI (at_) (15)) : Int)]).getD k1 0) (([(n : Int), (((digsOf s).length : Nat) : Int)]).getD k2 0) (((pathF (digsOf s) ((([(at_ : Int), ((andI (at_) (15)) : Int)]).getD k1 0))).1).take (n147 / 2))).1)).toArray)) hF767 rfl rfl rfl rfl (rn_extract (hF767.get rfl) rfl) ?_)
          intro a768 hF769; clear hF767
          refine wpl_op (i := 7) rfl (o_val (v := (.int .i64 ((climbF d (([(at_ : Int), ((andI (at_) (15)) : Int)]).getD k1 0) (([(n : Int), (((digsOf s).length : Nat) : Int)]).getD k2 0) (((pathF (digsOf s) ((([(at_ : Int), ((andI (at_) (15)) : Int)]).getD k1 0))).1).take (n147 / 2))).2))) hF769 rfl rfl rfl rfl (rn_extract (hF769.get rfl) rfl) ?_)
          intro a770 hF771; clear hF769
          have r772 := (own_ext (own_grownB (own_ext r732 hx737) hg745 nb742) hx762)
          have hf773 := r772
          refine wpl_op (i := 8) rfl (o_new (fun g => (.pointer (some ⟨g, 0, none⟩))) (byteVals (List.replicate 32 0)) 26 hF771 rfl rfl rfl rfl (by kernel_rfl) ?_)
          intro g774 w775 a780 hF781 z778 z779 b776 hx777; clear hF771
          have nb782 := own_new (g := g774) hf773 (by omega)
          refine wpl_op (i := 9) rfl (o_store (cells := (byteVals ((climbF d (([(at_ : Int), ((andI (at_) (15)) : Int)]).getD k1 0) (([(n : Int), (((digsOf s).length : Nat) : Int)]).getD k2 0) (((pathF (digsOf s) ((([(at_ : Int), ((andI (at_) (15)) : Int)]).getD k1 0))).1).take (n147 / 2))).1))) hF781 rfl rfl rfl rfl (hF781.get rfl) (hF781.get rfl) b776 ((by kernel_rfl : (Tryd.prog.info? 26).map (·.size) = some 32).trans (congrArg some (byteVals_len (climbF_len _ _ _ _)).symm)) ((byteVals_len (show List.length (List.replicate 32 0) = _ from List.length_replicate)).trans (byteVals_len (climbF_len _ _ _ _)).symm) (byteVals_one _) ?_)
          intro w783 b784 hg785; have z786 := hg785.size
          refine wpl_op (i := 10) rfl (o_val (v := (.int .i64 ((climbF d (([(at_ : Int), ((andI (at_) (15)) : Int)]).getD k1 0) (([(n : Int), (((digsOf s).length : Nat) : Int)]).getD k2 0) (((pathF (digsOf s) ((([(at_ : Int), ((andI (at_) (15)) : Int)]).getD k1 0))).1).take (n147 / 2))).2))) hF781 rfl rfl rfl rfl (rn_assign (hF781.get rfl)) ?_)
          intro a787 hF788; clear hF781
          refine wpList_nil ?_
          refine hK750 _ _ ?_
          clear hK750
          have hF789 := (((((((((((((((((((((((((((((((((hF788.nil.cons (hF788.get (t := 23) (v := (.int .i64 ((climbF d (([(at_ : Int), ((andI (at_) (15)) : Int)]).getD k1 0) (([(n : Int), (((digsOf s).length : Nat) : Int)]).getD k2 0) (((pathF (digsOf s) ((([(at_ : Int), ((andI (at_) (15)) : Int)]).getD k1 0))).1).take (n147 / 2))).2))) rfl)).cons (hF788.get (t := 22) (v := (.pointer (some ⟨g774, 0, none⟩))) rfl)).cons (hF788.get (t := 21) (v := (.int .i64 ((climbF d (([(at_ : Int), ((andI (at_) (15)) : Int)]).getD k1 0) (([(n : Int), (((digsOf s).length : Nat) : Int)]).getD k2 0) (((pathF (digsOf s) ((([(at_ : Int), ((andI (at_) (15)) : Int)]).getD k1 0))).1).take (n147 / 2))).2))) rfl)).cons (hF788.get (t := 20) (v := (.pointer (some ⟨g734, 0, none⟩))) rfl)).cons (hF788.get (t := 19) (v := (.slice A146 (n147 / 2) c148)) rfl)).cons (hF788.get (t := 87) (v := (.bool true)) rfl)).cons (hF788.get (t := 85) (v := (.int .i64 3)) rfl)).cons (hF788.get (t := 84) (v := (.slice (some ⟨g407, 0, none⟩) 3 3)) rfl)).cons (hF788.get (t := 86) (v := (.int .i64 2)) rfl)).cons (hF788.get (t := 69) (v := (.bool (decide (((k2 : Nat) : Int) < (2 : Int))))) rfl)).cons (hF788.get (t := 68) (v := (.int .i64 (k2 : Nat))) rfl)).cons (hF788.get (t := 67) (v := (.int .i64 2)) rfl)).cons (hF788.get (t := 66) (v := (.slice (some ⟨g205, 0, none⟩) 2 2)) rfl)).cons (hF788.get (t := 62) (v := (.bool (decide (((pathF (digsOf s) ((([(at_ : Int), ((andI (at_) (15)) : Int)]).getD k1 0))).2 : Int) ≠ ((pathF (digsOf s) ((([(at_ : Int), ((andI (at_) (15)) : Int)]).getD k1 0))).2 : Int))))) rfl)).cons (hF788.get (t := 39) (v := (.bool (decide (((k1 : Nat) : Int) < (2 : Int))))) rfl)).cons (hF788.get (t := 38) (v := (.int .i64 (k1 : Nat))) rfl)).cons (hF788.get (t := 37) (v := (.int .i64 2)) rfl)).cons (hF788.get (t := 36) (v := (.slice (some ⟨g70, 0, none⟩) 2 2)) rfl)).cons (hF788.get (t := 32) (v := (.bool (!decide (treeD (digsOf s) = treeD (digsOf s))))) rfl)).cons (hF788.get (t := 25) (v := (.bool false)) rfl)).cons (hF788.get (t := 17) (v := (.int .i64 (([(n : Int), (((digsOf s).length : Nat) : Int)]).getD k2 0))) rfl)).cons (hF788.get (t := 15) (v := (.int .i64 ((pathF (digsOf s) ((([(at_ : Int), ((andI (at_) (15)) : Int)]).getD k1 0))).2))) rfl)).cons (hF788.get (t := 14) (v := (.slice A146 n147 c148)) rfl)).cons (hF788.get (t := 13) (v := (.int .i64 ((pathF (digsOf s) ((([(at_ : Int), ((andI (at_) (15)) : Int)]).getD k1 0))).2))) rfl)).cons (hF788.get (t := 12) (v := (.slice A115 n116 c117)) rfl)).cons (hF788.get (t := 11) (v := (.int .i64 (([(at_ : Int), ((andI (at_) (15)) : Int)]).getD k1 0))) rfl)).cons (hF788.get (t := 9) (v := (.slice A25 ((digsOf s).length) c26)) rfl)).cons (hF788.get (t := 8) (v := (.bool false)) rfl)).cons (hF788.get (t := 7) (v := (.pointer (some ⟨g2, 0, none⟩))) rfl)).cons (hF788.get (t := 3) (v := (.agg (byteVals d).toArray)) rfl)).cons (hF788.get (t := 2) (v := (.int .i64 n)) rfl)).cons (hF788.get (t := 1) (v := (.int .i64 at_)) rfl)).cons (hF788.get (t := 0) (v := (.slice A s.length c)) rfl))
          clear hF788
          refine wp_seq_k (fun K790 hK790 => ?_)
          refine wp_region_lit ?_
          have b791 : Blk w783 g734 26 (byteVals ((climbF d (([(at_ : Int), ((andI (at_) (15)) : Int)]).getD k1 0) (([(n : Int), (((digsOf s).length : Nat) : Int)]).getD k2 0) (((pathF (digsOf s) ((([(at_ : Int), ((andI (at_) (15)) : Int)]).getD k1 0))).1).take (n147 / 2))).1)) := (((b744.ext hx762).ext hx777).grownN hg785 (by omega))
          refine wpl_op (i := 0) rfl (o_val (v := (.agg (byteVals ((climbF d (([(at_ : Int), ((andI (at_) (15)) : Int)]).getD k1 0) (([(n : Int), (((digsOf s).length : Nat) : Int)]).getD k2 0) (((pathF (digsOf s) ((([(at_ : Int), ((andI (at_) (15)) : Int)]).getD k1 0))).1).take (n147 / 2))).1)).toArray)) hF789 rfl rfl rfl rfl (rn_loadBlk (hF789.get rfl) b791 Tryd.underlying26 rfl ((by kernel_rfl : (Tryd.prog.info? 26).map (·.size) = some 32).trans (congrArg some (byteVals_len (climbF_len _ _ _ _)).symm))) ?_)
          intro a792 hF793; clear hF789
          refine wpl_op (i := 1) rfl (o_val (v := (.agg (byteVals ((climbF d (([(at_ : Int), ((andI (at_) (15)) : Int)]).getD k1 0) (([(n : Int), (((digsOf s).length : Nat) : Int)]).getD k2 0) (((pathF (digsOf s) ((([(at_ : Int), ((andI (at_) (15)) : Int)]).getD k1 0))).1).take (n147 / 2))).1)).toArray)) hF793 rfl rfl rfl rfl (rn_loadBlk (hF793.get rfl) b784 Tryd.underlying26 rfl ((by kernel_rfl : (Tryd.prog.info? 26).map (·.size) = some 32).trans (congrArg some (byteVals_len (climbF_len _ _ _ _)).symm))) ?_)
          intro a794 hF795; clear hF793
          refine wpl_op (i := 2) rfl (o_val (v := (.bool (!decide ((climbF d (([(at_ : Int), ((andI (at_) (15)) : Int)]).getD k1 0) (([(n : Int), (((digsOf s).length : Nat) : Int)]).getD k2 0) (((pathF (digsOf s) ((([(at_ : Int), ((andI (at_) (15)) : Int)]).getD k1 0))).1).take (n147 / 2))).1 = (climbF d (([(at_ : Int), ((andI (at_) (15)) : Int)]).getD k1 0) (([(n : Int), (((digsOf s).length : Nat) : Int)]).getD k2 0) (((pathF (digsOf s) ((([(at_ : Int), ((andI (at_) (15)) : Int)]).getD k1 0))).1).take (n147 / 2))).1)))) hF795 rfl rfl rfl rfl (rn_neA Tryd.underlying26 Tryd.underlying5 (by kernel_rfl : (Tryd.prog.info? 5).map (·.size) = some 1) (by kernel_rfl) (hF795.get rfl) (hF795.get rfl) (climbF_len _ _ _ _) (climbF_len _ _ _ _)) ?_)
          intro a796 hF797; clear hF795
          refine wpl_op (i := 3) rfl (o_val (v := (.bool (!decide ((climbF d (([(at_ : Int), ((andI (at_) (15)) : Int)]).getD k1 0) (([(n : Int), (((digsOf s).length : Nat) : Int)]).getD k2 0) (((pathF (digsOf s) ((([(at_ : Int), ((andI (at_) (15)) : Int)]).getD k1 0))).1).take (n147 / 2))).1 = (climbF d (([(at_ : Int), ((andI (at_) (15)) : Int)]).getD k1 0) (([(n : Int), (((digsOf s).length : Nat) : Int)]).getD k2 0) (((pathF (digsOf s) ((([(at_ : Int), ((andI (at_) (15)) : Int)]).getD k1 0))).1).take (n147 / 2))).1)))) hF797 rfl rfl rfl rfl (rn_move (hF797.get rfl)) ?_)
          intro a798 hF799; clear hF797
          refine wpl_op (i := 4) rfl (o_val (v := (.int .i64 ((climbF d (([(at_ : Int), ((andI (at_) (15)) : Int)]).getD k1 0) (([(n : Int), (((digsOf s).length : Nat) : Int)]).getD k2 0) (((pathF (digsOf s) ((([(at_ : Int), ((andI (at_) (15)) : Int)]).getD k1 0))).1).take (n147 / 2))).2))) hF799 rfl (wanted_guard rfl rfl rfl hF799 rfl (not_t ((decide_eq_true rfl) : decide ((climbF d (([(at_ : Int), ((andI (at_) (15)) : Int)]).getD k1 0) (([(n : Int), (((digsOf s).length : Nat) : Int)]).getD k2 0) (((pathF (digsOf s) ((([(at_ : Int), ((andI (at_) (15)) : Int)]).getD k1 0))).1).take (n147 / 2))).1 = (climbF d (([(at_ : Int), ((andI (at_) (15)) : Int)]).getD k1 0) (([(n : Int), (((digsOf s).length : Nat) : Int)]).getD k2 0) (((pathF (digsOf s) ((([(at_ : Int), ((andI (at_) (15)) : Int)]).getD k1 0))).1).take (n147 / 2))).1) = true)) rfl) rfl rfl (rn_move (hF799.get rfl)) ?_)
          intro a801 hF802; clear hF799
          refine wpl_op (i := 5) rfl (o_val (v := (.int .i64 ((climbF d (([(at_ : Int), ((andI (at_) (15)) : Int)]).getD k1 0) (([(n : Int), (((digsOf s).length : Nat) : Int)]).getD k2 0) (((pathF (digsOf s) ((([(at_ : Int), ((andI (at_) (15)) : Int)]).getD k1 0))).1).take (n147 / 2))).2))) hF802 rfl (wanted_guard rfl rfl rfl hF802 rfl (not_t ((decide_eq_true rfl) : decide ((climbF d (([(at_ : Int), ((andI (at_) (15)) : Int)]).getD k1 0) (([(n : Int), (((digsOf s).length : Nat) : Int)]).getD k2 0) (((pathF (digsOf s) ((([(at_ : Int), ((andI (at_) (15)) : Int)]).getD k1 0))).1).take (n147 / 2))).1 = (climbF d (([(at_ : Int), ((andI (at_) (15)) : Int)]).getD k1 0) (([(n : Int), (((digsOf s).length : Nat) : Int)]).getD k2 0) (((pathF (digsOf s) ((([(at_ : Int), ((andI (at_) (15)) : Int)]).getD k1 0))).1).take (n147 / 2))).1) = true)) rfl) rfl rfl (rn_move (hF802.get rfl)) ?_)
          intro a803 hF804; clear hF802
          refine wpl_op (i := 6) rfl (o_val (v := (.bool (decide (((climbF d (([(at_ : Int), ((andI (at_) (15)) : Int)]).getD k1 0) (([(n : Int), (((digsOf s).length : Nat) : Int)]).getD k2 0) (((pathF (digsOf s) ((([(at_ : Int), ((andI (at_) (15)) : Int)]).getD k1 0))).1).take (n147 / 2))).2 : Int) ≠ ((climbF d (([(at_ : Int), ((andI (at_) (15)) : Int)]).getD k1 0) (([(n : Int), (((digsOf s).length : Nat) : Int)]).getD k2 0) (((pathF (digsOf s) ((([(at_ : Int), ((andI (at_) (15)) : Int)]).getD k1 0))).1).take (n147 / 2))).2 : Int))))) hF804 rfl (wanted_guard rfl rfl rfl hF804 rfl (not_t ((decide_eq_true rfl) : decide ((climbF d (([(at_ : Int), ((andI (at_) (15)) : Int)]).getD k1 0) (([(n : Int), (((digsOf s).length : Nat) : Int)]).getD k2 0) (((pathF (digsOf s) ((([(at_ : Int), ((andI (at_) (15)) : Int)]).getD k1 0))).1).take (n147 / 2))).1 = (climbF d (([(at_ : Int), ((andI (at_) (15)) : Int)]).getD k1 0) (([(n : Int), (((digsOf s).length : Nat) : Int)]).getD k2 0) (((pathF (digsOf s) ((([(at_ : Int), ((andI (at_) (15)) : Int)]).getD k1 0))).1).take (n147 / 2))).1) = true)) rfl) rfl rfl (rn_neq (hF804.get rfl) (hF804.get rfl)) ?_)
          intro a805 hF806; clear hF804
          refine wpl_op (i := 7) rfl (o_val (v := (.bool (decide (((climbF d (([(at_ : Int), ((andI (at_) (15)) : Int)]).getD k1 0) (([(n : Int), (((digsOf s).length : Nat) : Int)]).getD k2 0) (((pathF (digsOf s) ((([(at_ : Int), ((andI (at_) (15)) : Int)]).getD k1 0))).1).take (n147 / 2))).2 : Int) ≠ ((climbF d (([(at_ : Int), ((andI (at_) (15)) : Int)]).getD k1 0) (([(n : Int), (((digsOf s).length : Nat) : Int)]).getD k2 0) (((pathF (digsOf s) ((([(at_ : Int), ((andI (at_) (15)) : Int)]).getD k1 0))).1).take (n147 / 2))).2 : Int))))) hF806 rfl rfl rfl rfl (rn_pickF (c_false hF806 rfl (not_t ((decide_eq_true rfl) : decide ((climbF d (([(at_ : Int), ((andI (at_) (15)) : Int)]).getD k1 0) (([(n : Int), (((digsOf s).length : Nat) : Int)]).getD k2 0) (((pathF (digsOf s) ((([(at_ : Int), ((andI (at_) (15)) : Int)]).getD k1 0))).1).take (n147 / 2))).1 = (climbF d (([(at_ : Int), ((andI (at_) (15)) : Int)]).getD k1 0) (([(n : Int), (((digsOf s).length : Nat) : Int)]).getD k2 0) (((pathF (digsOf s) ((([(at_ : Int), ((andI (at_) (15)) : Int)]).getD k1 0))).1).take (n147 / 2))).1) = true))) (hF806.get rfl)) ?_)
          intro a807 hF808; clear hF806
          refine wpList_nil ?_
          refine hK790 _ _ ?_
          clear hK790
          have hF809 := ((((((((((((((((((((((((((((((((((hF808.nil.cons (hF808.get (t := 113) (v := (.bool (decide (((climbF d (([(at_ : Int), ((andI (at_) (15)) : Int)]).getD k1 0) (([(n : Int), (((digsOf s).length : Nat) : Int)]).getD k2 0) (((pathF (digsOf s) ((([(at_ : Int), ((andI (at_) (15)) : Int)]).getD k1 0))).1).take (n147 / 2))).2 : Int) ≠ ((climbF d (([(at_ : Int), ((andI (at_) (15)) : Int)]).getD k1 0) (([(n : Int), (((digsOf s).length : Nat) : Int)]).getD k2 0) (((pathF (digsOf s) ((([(at_ : Int), ((andI (at_) (15)) : Int)]).getD k1 0))).1).take (n147 / 2))).2 : Int))))) rfl)).cons (hF808.get (t := 23) (v := (.int .i64 ((climbF d (([(at_ : Int), ((andI (at_) (15)) : Int)]).getD k1 0) (([(n : Int), (((digsOf s).length : Nat) : Int)]).getD k2 0) (((pathF (digsOf s) ((([(at_ : Int), ((andI (at_) (15)) : Int)]).getD k1 0))).1).take (n147 / 2))).2))) rfl)).cons (hF808.get (t := 22) (v := (.pointer (some ⟨g774, 0, none⟩))) rfl)).cons (hF808.get (t := 21) (v := (.int .i64 ((climbF d (([(at_ : Int), ((andI (at_) (15)) : Int)]).getD k1 0) (([(n : Int), (((digsOf s).length : Nat) : Int)]).getD k2 0) (((pathF (digsOf s) ((([(at_ : Int), ((andI (at_) (15)) : Int)]).getD k1 0))).1).take (n147 / 2))).2))) rfl)).cons (hF808.get (t := 20) (v := (.pointer (some ⟨g734, 0, none⟩))) rfl)).cons (hF808.get (t := 19) (v := (.slice A146 (n147 / 2) c148)) rfl)).cons (hF808.get (t := 87) (v := (.bool true)) rfl)).cons (hF808.get (t := 85) (v := (.int .i64 3)) rfl)).cons (hF808.get (t := 84) (v := (.slice (some ⟨g407, 0, none⟩) 3 3)) rfl)).cons (hF808.get (t := 86) (v := (.int .i64 2)) rfl)).cons (hF808.get (t := 69) (v := (.bool (decide (((k2 : Nat) : Int) < (2 : Int))))) rfl)).cons (hF808.get (t := 68) (v := (.int .i64 (k2 : Nat))) rfl)).cons (hF808.get (t := 67) (v := (.int .i64 2)) rfl)).cons (hF808.get (t := 66) (v := (.slice (some ⟨g205, 0, none⟩) 2 2)) rfl)).cons (hF808.get (t := 62) (v := (.bool (decide (((pathF (digsOf s) ((([(at_ : Int), ((andI (at_) (15)) : Int)]).getD k1 0))).2 : Int) ≠ ((pathF (digsOf s) ((([(at_ : Int), ((andI (at_) (15)) : Int)]).getD k1 0))).2 : Int))))) rfl)).cons (hF808.get (t := 39) (v := (.bool (decide (((k1 : Nat) : Int) < (2 : Int))))) rfl)).cons (hF808.get (t := 38) (v := (.int .i64 (k1 : Nat))) rfl)).cons (hF808.get (t := 37) (v := (.int .i64 2)) rfl)).cons (hF808.get (t := 36) (v := (.slice (some ⟨g70, 0, none⟩) 2 2)) rfl)).cons (hF808.get (t := 32) (v := (.bool (!decide (treeD (digsOf s) = treeD (digsOf s))))) rfl)).cons (hF808.get (t := 25) (v := (.bool false)) rfl)).cons (hF808.get (t := 17) (v := (.int .i64 (([(n : Int), (((digsOf s).length : Nat) : Int)]).getD k2 0))) rfl)).cons (hF808.get (t := 15) (v := (.int .i64 ((pathF (digsOf s) ((([(at_ : Int), ((andI (at_) (15)) : Int)]).getD k1 0))).2))) rfl)).cons (hF808.get (t := 14) (v := (.slice A146 n147 c148)) rfl)).cons (hF808.get (t := 13) (v := (.int .i64 ((pathF (digsOf s) ((([(at_ : Int), ((andI (at_) (15)) : Int)]).getD k1 0))).2))) rfl)).cons (hF808.get (t := 12) (v := (.slice A115 n116 c117)) rfl)).cons (hF808.get (t := 11) (v := (.int .i64 (([(at_ : Int), ((andI (at_) (15)) : Int)]).getD k1 0))) rfl)).cons (hF808.get (t := 9) (v := (.slice A25 ((digsOf s).length) c26)) rfl)).cons (hF808.get (t := 8) (v := (.bool false)) rfl)).cons (hF808.get (t := 7) (v := (.pointer (some ⟨g2, 0, none⟩))) rfl)).cons (hF808.get (t := 3) (v := (.agg (byteVals d).toArray)) rfl)).cons (hF808.get (t := 2) (v := (.int .i64 n)) rfl)).cons (hF808.get (t := 1) (v := (.int .i64 at_)) rfl)).cons (hF808.get (t := 0) (v := (.slice A s.length c)) rfl))
          clear hF808
          refine wp_cond_false (c_false hF809 rfl ((decide_eq_false (by simp)) : decide (((climbF d (([(at_ : Int), ((andI (at_) (15)) : Int)]).getD k1 0) (([(n : Int), (((digsOf s).length : Nat) : Int)]).getD k2 0) (((pathF (digsOf s) ((([(at_ : Int), ((andI (at_) (15)) : Int)]).getD k1 0))).1).take (n147 / 2))).2 : Int) ≠ ((climbF d (([(at_ : Int), ((andI (at_) (15)) : Int)]).getD k1 0) (([(n : Int), (((digsOf s).length : Nat) : Int)]).getD k2 0) (((pathF (digsOf s) ((([(at_ : Int), ((andI (at_) (15)) : Int)]).getD k1 0))).1).take (n147 / 2))).2 : Int)) = false)) ?_
          refine wp_skip ?_
          refine hK704 _ _ ?_
          clear hK704
          refine wp_region_lit ?_
          refine wpl_op (i := 0) rfl (o_val (v := (.int .i64 3)) hF809 rfl rfl rfl rfl (rn_add (hF809.get rfl) rfl (by omega) (by omega)) ?_)
          intro a811 hF812; clear hF809
          refine wpl_op (i := 1) rfl (o_val (v := (.int .i64 3)) hF812 rfl rfl rfl rfl (rn_move (hF812.get rfl)) ?_)
          intro a813 hF814; clear hF812
          refine wpList_nil ?_
          have d815 := (hf438.pres (((((((Pres.refl w428).ext hx722).ext hx737).grownN hg745 (fun h => by simp only [Clip] at h; omega)).ext hx762).ext hx777).grownN hg785 (fun h => by simp only [Clip] at h; omega)))
          have d816 := (hf439.pres (((((((Pres.refl w428).ext hx722).ext hx737).grownN hg745 (fun h => by simp only [Clip] at h; omega)).ext hx762).ext hx777).grownN hg785 (fun h => by simp only [Clip] at h; omega)))
          have d817 := (hf440.pres (((((((Pres.refl w428).ext hx722).ext hx737).grownN hg745 (fun h => by simp only [Clip] at h; omega)).ext hx762).ext hx777).grownN hg785 (fun h => by simp only [Clip] at h; omega)))
          have b818 : Blk w783 g2 26 (byteVals d) := (((b751.ext hx762).ext hx777).grownN hg785 (by omega))
          have b819 : Blk w783 g70 3 (intVals [(at_ : Int), ((andI (at_) (15)) : Int)]) := ((((((b433.ext hx722).ext hx737).grownN hg745 (by omega)).ext hx762).ext hx777).grownN hg785 (by omega))
          have b820 : Blk w783 g205 3 (intVals [(n : Int), (((digsOf s).length : Nat) : Int)]) := ((((((b434.ext hx722).ext hx737).grownN hg745 (by omega)).ext hx762).ext hx777).grownN hg785 (by omega))
          have b821 : Blk w783 g313 26 (byteVals (d)) := ((((((b435.ext hx722).ext hx737).grownN hg745 (by omega)).ext hx762).ext hx777).grownN hg785 (by omega))
          have b822 : Blk w783 g407 30 [(.slice A146 n147 c148), (.slice A387 ((0 + n147) + 1) c388), (.slice A146 (n147 / 2) c148)] := ((((((b436.ext hx722).ext hx737).grownN hg745 (by omega)).ext hx762).ext hx777).grownN hg785 (by omega))
          have r823 := (own_grownB (own_ext r772 hx777) hg785 nb782)
          refine ⟨⟨3, (((((((((((((((((((((((((((hF814.nil.cons (q_get hF814 (t := 85) rfl rfl)).cons (q_get hF814 (t := 84) rfl rfl)).cons (q_get hF814 (t := 86) rfl (by first | rfl | (congr 1; omega) | (congr 1; done)))).cons (q_get hF814 (t := 69) rfl rfl)).cons (q_get hF814 (t := 68) rfl rfl)).cons (q_get hF814 (t := 67) rfl rfl)).cons (q_get hF814 (t := 66) rfl rfl)).cons (q_get hF814 (t := 62) rfl rfl)).cons (q_get hF814 (t := 39) rfl rfl)).cons (q_get hF814 (t := 38) rfl rfl)).cons (q_get hF814 (t := 37) rfl rfl)).cons (q_get hF814 (t := 36) rfl rfl)).cons (q_get hF814 (t := 32) rfl rfl)).cons (q_get hF814 (t := 25) rfl rfl)).cons (q_get hF814 (t := 17) rfl rfl)).cons (q_get hF814 (t := 15) rfl rfl)).cons (q_get hF814 (t := 14) rfl rfl)).cons (q_get hF814 (t := 13) rfl rfl)).cons (q_get hF814 (t := 12) rfl rfl)).cons (q_get hF814 (t := 11) rfl rfl)).cons (q_get hF814 (t := 9) rfl rfl)).cons (q_get hF814 (t := 8) rfl rfl)).cons (q_get hF814 (t := 7) rfl rfl)).cons (q_get hF814 (t := 3) rfl rfl)).cons (q_get hF814 (t := 2) rfl rfl)).cons (q_get hF814 (t := 1) rfl rfl)).cons (q_get hF814 (t := 0) rfl rfl)), (by omega), ((((((((Ext.refl w).trans hx430).trans hx722).trans hx737).grownN hg745 (by omega)).trans hx762).trans hx777).grownN hg785 (by omega)), b818, b819, b820, b821, b822, r823, d815, d816, d817, (by omega), (by omega)⟩, ?_⟩
          rw [hF814.get (t := 86) rfl, hL443.get (t := 86) rfl]; simp [intOf] <;> omega
        · subst hk451
          refine wp_seq_k (fun K824 hK824 => ?_)
          refine wp_region_lit ?_
          refine wpl_op (i := 0) rfl (o_val (v := (.bool false)) hF429 rfl rfl rfl rfl (rn_lss' (hF429.get rfl) (hF429.get rfl) (by decide)) ?_)
          intro a825 hF826; clear hF429
          refine wpList_nil ?_
          refine hK824 _ _ ?_
          clear hK824
          refine wp_seq_k (fun K827 hK827 => ?_)
          refine wp_cond_false (c_false hF826 rfl rfl) ?_
          refine wp_exit ?_
          refine exit_then ?_
          refine exit_then ?_
          refine exit_here ?_
          refine hK244 _ _ ?_
          clear hK244
          refine wp_region_lit ?_
          refine wpl_op (i := 0) rfl (o_val (v := (.int .i64 (k2 + 1 : Nat))) hF826 rfl rfl rfl rfl (rn_addN (a := k2) (b := 1) (hF826.get rfl) rfl (by omega)) ?_)
          intro a828 hF829; clear hF826
          refine wpl_op (i := 1) rfl (o_val (v := (.int .i64 (k2 + 1 : Nat))) hF829 rfl rfl rfl rfl (rn_move (hF829.get rfl)) ?_)
          intro a830 hF831; clear hF829
          refine wpList_nil ?_
          refine ⟨⟨(k2 + 1), ((((((((((((((((((((((hF831.nil.cons (q_get hF831 (t := 68) rfl (by first | rfl | (congr 1; omega) | (congr 1; done)))).cons (q_get hF831 (t := 67) rfl rfl)).cons (q_get hF831 (t := 66) rfl rfl)).cons (q_get hF831 (t := 62) rfl rfl)).cons (q_get hF831 (t := 15) rfl rfl)).cons (q_get hF831 (t := 14) rfl rfl)).cons (q_get hF831 (t := 13) rfl rfl)).cons (q_get hF831 (t := 12) rfl rfl)).cons (q_get hF831 (t := 11) rfl rfl)).cons (q_get hF831 (t := 39) rfl rfl)).cons (q_get hF831 (t := 38) rfl rfl)).cons (q_get hF831 (t := 37) rfl rfl)).cons (q_get hF831 (t := 36) rfl rfl)).cons (q_get hF831 (t := 32) rfl rfl)).cons (q_get hF831 (t := 9) rfl rfl)).cons (q_get hF831 (t := 25) rfl rfl)).cons (q_get hF831 (t := 8) rfl rfl)).cons (q_get hF831 (t := 7) rfl rfl)).cons (q_get hF831 (t := 3) rfl rfl)).cons (q_get hF831 (t := 2) rfl rfl)).cons (q_get hF831 (t := 1) rfl rfl)).cons (q_get hF831 (t := 0) rfl rfl)), (by omega), ((Ext.refl w).trans hx430), b432, b433, b434, hf438, hf439, hf440, (by omega)⟩, ?_⟩
          rw [hF831.get (t := 68) rfl, hL234.get (t := 68) rfl]; simp [intOf] <;> omega
      refine any_have (n1 := 4) (L1 := #[true, true, true, false, true, true, false, true, true, true, true, true, false, false, true]) (fun a' W => ∃ (g277 : Nat) (g313 : Nat), Sl 117 [(0, (.slice A s.length c)), (1, (.int .i64 at_)), (2, (.int .i64 n)), (3, (.agg (byteVals d).toArray)), (7, (.pointer (some ⟨g2, 0, none⟩))), (8, (.bool false)), (9, (.slice A25 ((digsOf s).length) c26)), (11, (.int .i64 (([(at_ : Int), ((andI (at_) (15)) : Int)]).getD k1 0))), (12, (.slice A115 n116 c117)), (13, (.int .i64 ((pathF (digsOf s) ((([(at_ : Int), ((andI (at_) (15)) : Int)]).getD k1 0))).2))), (14, (.slice A146 n147 c148)), (15, (.int .i64 ((pathF (digsOf s) ((([(at_ : Int), ((andI (at_) (15)) : Int)]).getD k1 0))).2))), (17, (.int .i64 (([(n : Int), (((digsOf s).length : Nat) : Int)]).getD k2 0))), (25, (.bool false)), (32, (.bool (!decide (treeD (digsOf s) = treeD (digsOf s))))), (36, (.slice (some ⟨g70, 0, none⟩) 2 2)), (37, (.int .i64 2)), (38, (.int .i64 (k1 : Nat))), (39, (.bool (decide (((k1 : Nat) : Int) < (2 : Int))))), (62, (.bool (decide (((pathF (digsOf s) ((([(at_ : Int), ((andI (at_) (15)) : Int)]).getD k1 0))).2 : Int) ≠ ((pathF (digsOf s) ((([(at_ : Int), ((andI (at_) (15)) : Int)]).getD k1 0))).2 : Int))))), (66, (.slice (some ⟨g205, 0, none⟩) 2 2)), (67, (.int .i64 2)), (68, (.int .i64 (k2 : Nat))), (69, (.bool (decide (((k2 : Nat) : Int) < (2 : Int))))), (72, (.slice A146 n147 c148)), (73, (.slice (some ⟨g277, 0, none⟩) 0 0)), (74, (.slice A146 n147 c148)), (77, (.slice (some ⟨g313, 0, none⟩) 1 1)), (83, (.slice A146 (n147 / 2) c148)), (86, (.int .i64 0))] a' ∧ Ext w253 W ∧ Blk W g277 26 [] ∧ w253.heap.size ≤ g277 ∧ Blk W g313 26 (byteVals (d)) ∧ w253.heap.size ≤ g313 ∧ g277 ≠ g313) ?_ (fun st832 => ?_)
      · skip
        rintro a833 w834 ⟨g277, g313, hF835, hx836, b837, z838, b839, z840, z841⟩
        clear hF251
        have z842 := hx836.size
        have z843 := b837.lt
        have z844 := b839.lt
        refine any_one (i := 3) (by decide +kernel) rfl ?_
        have d846 := ((hf232.ext hx254).ext hx836)
        have hf855 := (own_blk0 (k := 32) b837)
        have b856 : Blk w834 g2 26 (byteVals d) := ((b227.ext hx254).ext hx836)
        have nb857 : some g2 ≠ (Value.slice (some ⟨g277, 0, none⟩) 0 0).ownBlock := (ne_slice (n := 0) (c := 0) (by omega : g2 ≠ g277))
        have z858 := b856.lt
        have nb859 : some g313 ≠ (Value.slice (some ⟨g277, 0, none⟩) 0 0).ownBlock := (ne_slice (n := 0) (c := 0) (by omega : g313 ≠ g277))
        have z860 := b839.lt
        refine o_appB (zs := digVals ((pathF (digsOf s) ((([(at_ : Int), ((andI (at_) (15)) : Int)]).getD k1 0))).1)) El30 hF835 rfl rfl rfl rfl rfl (hF835.get rfl) (hF835.get rfl) hf855 (Fl.cel d846).2.2 (by omega) (by omega) (by omega) (List.nil_append _) ?_
        intro A847 c848 w849 a861 hF862 r850 hg851 z852 z853 hnb854; clear hF835; have z863 := hg851.size
        have nb864 := hnb854 g2 (by omega) nb857
        have nb865 := hnb854 g313 (by omega) nb859
        have b866 : Blk w849 g2 26 (byteVals d) := (b856.grown hg851 nb857)
        refine ⟨fun _ _ => ⟨(ext_row ((Ext.refl w253).trans hx836) hg851 hf855 (by omega)), b866⟩, ?_⟩
        have b867 : Blk w849 g313 26 (byteVals (d)) := (b839.grown hg851 nb859)
        exact st375 _ _ ⟨A847, c848, g313, (((((((((((((((((((((((((((((hF862.nil.cons (hF862.get (t := 86) (v := (.int .i64 0)) rfl)).cons (hF862.get (t := 83) (v := (.slice A146 (n147 / 2) c148)) rfl)).cons (hF862.get (t := 77) (v := (.slice (some ⟨g313, 0, none⟩) 1 1)) rfl)).cons (hF862.get (t := 75) (v := (.slice A847 (0 + n147) c848)) rfl)).cons (hF862.get (t := 72) (v := (.slice A146 n147 c148)) rfl)).cons (hF862.get (t := 69) (v := (.bool (decide (((k2 : Nat) : Int) < (2 : Int))))) rfl)).cons (hF862.get (t := 68) (v := (.int .i64 (k2 : Nat))) rfl)).cons (hF862.get (t := 67) (v := (.int .i64 2)) rfl)).cons (hF862.get (t := 66) (v := (.slice (some ⟨g205, 0, none⟩) 2 2)) rfl)).cons (hF862.get (t := 62) (v := (.bool (decide (((pathF (digsOf s) ((([(at_ : Int), ((andI (at_) (15)) : Int)]).getD k1 0))).2 : Int) ≠ ((pathF (digsOf s) ((([(at_ : Int), ((andI (at_) (15)) : Int)]).getD k1 0))).2 : Int))))) rfl)).cons (hF862.get (t := 39) (v := (.bool (decide (((k1 : Nat) : Int) < (2 : Int))))) rfl)).cons (hF862.get (t := 38) (v := (.int .i64 (k1 : Nat))) rfl)).cons (hF862.get (t := 37) (v := (.int .i64 2)) rfl)).cons (hF862.get (t := 36) (v := (.slice (some ⟨g70, 0, none⟩) 2 2)) rfl)).cons (hF862.get (t := 32) (v := (.bool (!decide (treeD (digsOf s) = treeD (digsOf s))))) rfl)).cons (hF862.get (t := 25) (v := (.bool false)) rfl)).cons (hF862.get (t := 17) (v := (.int .i64 (([(n : Int), (((digsOf s).length : Nat) : Int)]).getD k2 0))) rfl)).cons (hF862.get (t := 15) (v := (.int .i64 ((pathF (digsOf s) ((([(at_ : Int), ((andI (at_) (15)) : Int)]).getD k1 0))).2))) rfl)).cons (hF862.get (t := 14) (v := (.slice A146 n147 c148)) rfl)).cons (hF862.get (t := 13) (v := (.int .i64 ((pathF (digsOf s) ((([(at_ : Int), ((andI (at_) (15)) : Int)]).getD k1 0))).2))) rfl)).cons (hF862.get (t := 12) (v := (.slice A115 n116 c117)) rfl)).cons (hF862.get (t := 11) (v := (.int .i64 (([(at_ : Int), ((andI (at_) (15)) : Int)]).getD k1 0))) rfl)).cons (hF862.get (t := 9) (v := (.slice A25 ((digsOf s).length) c26)) rfl)).cons (hF862.get (t := 8) (v := (.bool false)) rfl)).cons (hF862.get (t := 7) (v := (.pointer (some ⟨g2, 0, none⟩))) rfl)).cons (hF862.get (t := 3) (v := (.agg (byteVals d).toArray)) rfl)).cons (hF862.get (t := 2) (v := (.int .i64 n)) rfl)).cons (hF862.get (t := 1) (v := (.int .i64 at_)) rfl)).cons (hF862.get (t := 0) (v := (.slice A s.length c)) rfl)), (ext_row ((Ext.refl w253).trans hx836) hg851 hf855 (by omega)), b867, (by omega), (own_base r850 (by omega)), nb865⟩
      refine any_pure (i := 0) (v := (.slice A146 n147 c148)) hF251 (by decide +kernel) (by decide +kernel) rfl rfl rfl rfl (fun _ _ _ _ h => h) rfl (fun W => (rn_move (hF251.get rfl))) ?_
      intro a868 hF869; clear hF251
      refine any_pure (i := 2) (v := (.slice A146 n147 c148)) hF869 (by decide +kernel) (by decide +kernel) rfl rfl rfl rfl (fun _ _ _ _ h => h) rfl (fun W => (rn_move (hF869.get rfl))) ?_
      intro a870 hF871; clear hF869
      have b873 : Blk w253 g2 26 (byteVals d) := (b227.ext hx254)
      have hS872 : Ext w253 w253 ∧ Blk w253 g2 26 (byteVals d) := ⟨(Ext.refl w253), b873⟩
      refine any_val (i := 4) (v := (.agg (byteVals d).toArray)) hF871 (by decide +kernel) (by decide +kernel) rfl rfl rfl rfl (fun _ _ _ _ h => h) rfl hS872 (fun W hW => (rn_loadBlk (hF871.get rfl) hW.2 Tryd.underlying26 rfl ((by kernel_rfl : (Tryd.prog.info? 26).map (·.size) = some 32).trans (congrArg some (byteVals_len hd).symm)))) ?_
      intro a874 hF875; clear hF871
      refine any_pure (i := 7) (v := (.slice A146 n147 c148)) hF875 (by decide +kernel) (by decide +kernel) rfl rfl rfl rfl (fun _ _ _ _ h => h) rfl (fun W => (rn_move (hF875.get rfl))) ?_
      intro a876 hF877; clear hF875
      refine any_pure (i := 8) (v := (.slice A146 n147 c148)) hF877 (by decide +kernel) (by decide +kernel) rfl rfl rfl rfl (fun _ _ _ _ h => h) rfl (fun W => (rn_move (hF877.get rfl))) ?_
      intro a878 hF879; clear hF877
      refine any_pure (i := 9) (v := (.int .i64 (n147 : Nat))) hF879 (by decide +kernel) (by decide +kernel) rfl rfl rfl rfl (fun _ _ _ _ h => h) rfl (fun W => (rn_len_slice Tryd.underlying30 (hF879.get rfl))) ?_
      intro a880 hF881; clear hF879
      refine any_pure (i := 10) (v := (.int .i64 (n147 / 2 : Nat))) hF881 (by decide +kernel) (by decide +kernel) rfl rfl rfl rfl (fun _ _ _ _ h => h) rfl (fun W => (rn_quoN (a := n147) (b := 2) (hF881.get rfl) rfl (by omega) (by omega))) ?_
      intro a882 hF883; clear hF881
      refine any_pure (i := 11) (v := (.slice A146 (n147 / 2) c148)) hF883 (by decide +kernel) (by decide +kernel) rfl rfl rfl rfl (fun _ _ _ _ h => h) rfl (fun W => (rn_sliceHi Tryd.underlying30 (by kernel_rfl : (Tryd.prog.info? 26).map (·.size) = some 32) (hF883.get rfl) (hF883.get rfl) (by omega : (0 : Int) ≤ (n147 / 2 : Nat)) (by omega : ((n147 / 2 : Nat) : Int) ≤ ((c148 : Nat) : Int)))) ?_
      intro a884 hF885; clear hF883
      refine any_pure (i := 14) (v := (.int .i64 0)) hF885 (by decide +kernel) (by decide +kernel) rfl rfl rfl rfl (fun _ _ _ _ h => h) rfl (fun W => (rn_move rfl)) ?_
      intro a886 hF887; clear hF885
      refine any_two (i := 1) (k := 5) (by decide +kernel) rfl rfl ?_ ?_
      · skip
        refine o_new (fun g => (.slice (some ⟨g, 0, none⟩) 0 0)) [] 26 hF887 rfl rfl rfl rfl (rn_buildSlice (parts0 ) (by kernel_rfl)) ?_
        intro g888 w889 a894 hF895 z892 z893 b890 hx891; clear hF887
        have b896 : Blk w889 g2 26 (byteVals d) := (b873.ext hx891)
        refine ⟨fun _ _ => ⟨((Ext.refl w253).trans hx891), b896⟩, ?_⟩
        refine any_two (i := 3) (k := 5) (by decide +kernel) rfl rfl ?_ ?_
        · skip
          have d898 := ((hf232.ext hx254).ext hx891)
          have hf907 := (own_blk0 (k := 32) b890)
          have nb908 : some g2 ≠ (Value.slice (some ⟨g888, 0, none⟩) 0 0).ownBlock := (ne_slice (n := 0) (c := 0) (by omega : g2 ≠ g888))
          have z909 := b896.lt
          refine o_appB (zs := digVals ((pathF (digsOf s) ((([(at_ : Int), ((andI (at_) (15)) : Int)]).getD k1 0))).1)) El30 hF895 rfl rfl rfl rfl rfl (hF895.get rfl) (hF895.get rfl) hf907 (Fl.cel d898).2.2 (by omega) (by omega) (by omega) (List.nil_append _) ?_
          intro A899 c900 w901 a910 hF911 r902 hg903 z904 z905 hnb906; clear hF895; have z912 := hg903.size
          have nb913 := hnb906 g2 (by omega) nb908
          have b914 : Blk w901 g2 26 (byteVals d) := (b896.grown hg903 nb908)
          refine ⟨fun _ _ => ⟨(ext_row ((Ext.refl w253).trans hx891) hg903 hf907 (by omega)), b914⟩, ?_⟩
          refine any_one (i := 5) (by decide +kernel) rfl ?_
          have hf915 := r902
          refine o_new (fun g => (.slice (some ⟨g, 0, none⟩) 1 1)) (byteVals (d)) 26 hF911 rfl rfl rfl rfl (rn_buildSlice (parts1 (hF911.get rfl)) (build_wholeE (vs := [(.agg (byteVals d).toArray)]) El30 rfl rfl (fun v hv => by rw [List.mem_singleton.1 hv]; exact (byteVals_len hd)) (by decide) (by decide) (by simp [Value.cells, byteVals]))) ?_
          intro g916 w917 a922 hF923 z920 z921 b918 hx919; clear hF911
          have nb924 := own_new (g := g916) hf915 (by omega)
          have b925 : Blk w917 g2 26 (byteVals d) := (b914.ext hx919)
          refine ⟨fun _ _ => ⟨((ext_row ((Ext.refl w253).trans hx891) hg903 hf907 (by omega)).trans hx919), b925⟩, ?_⟩
          have r926 := (own_ext r902 hx919)
          exact st375 _ _ ⟨A899, c900, g916, (((((((((((((((((((((((((((((hF923.nil.cons (hF923.get (t := 86) (v := (.int .i64 0)) rfl)).cons (hF923.get (t := 83) (v := (.slice A146 (n147 / 2) c148)) rfl)).cons (hF923.get (t := 77) (v := (.slice (some ⟨g916, 0, none⟩) 1 1)) rfl)).cons (hF923.get (t := 75) (v := (.slice A899 (0 + n147) c900)) rfl)).cons (hF923.get (t := 72) (v := (.slice A146 n147 c148)) rfl)).cons (hF923.get (t := 69) (v := (.bool (decide (((k2 : Nat) : Int) < (2 : Int))))) rfl)).cons (hF923.get (t := 68) (v := (.int .i64 (k2 : Nat))) rfl)).cons (hF923.get (t := 67) (v := (.int .i64 2)) rfl)).cons (hF923.get (t := 66) (v := (.slice (some ⟨g205, 0, none⟩) 2 2)) rfl)).cons (hF923.get (t := 62) (v := (.bool (decide (((pathF (digsOf s) ((([(at_ : Int), ((andI (at_) (15)) : Int)]).getD k1 0))).2 : Int) ≠ ((pathF (digsOf s) ((([(at_ : Int), ((andI (at_) (15)) : Int)]).getD k1 0))).2 : Int))))) rfl)).cons (hF923.get (t := 39) (v := (.bool (decide (((k1 : Nat) : Int) < (2 : Int))))) rfl)).cons (hF923.get (t := 38) (v := (.int .i64 (k1 : Nat))) rfl)).cons (hF923.get (t := 37) (v := (.int .i64 2)) rfl)).cons (hF923.get (t := 36) (v := (.slice (some ⟨g70, 0, none⟩) 2 2)) rfl)).cons (hF923.get (t := 32) (v := (.bool (!decide (treeD (digsOf s) = treeD (digsOf s))))) rfl)).cons (hF923.get (t := 25) (v := (.bool false)) rfl)).cons (hF923.get (t := 17) (v := (.int .i64 (([(n : Int), (((digsOf s).length : Nat) : Int)]).getD k2 0))) rfl)).cons (hF923.get (t := 15) (v := (.int .i64 ((pathF (digsOf s) ((([(at_ : Int), ((andI (at_) (15)) : Int)]).getD k1 0))).2))) rfl)).cons (hF923.get (t := 14) (v := (.slice A146 n147 c148)) rfl)).cons (hF923.get (t := 13) (v := (.int .i64 ((pathF (digsOf s) ((([(at_ : Int), ((andI (at_) (15)) : Int)]).getD k1 0))).2))) rfl)).cons (hF923.get (t := 12) (v := (.slice A115 n116 c117)) rfl)).cons (hF923.get (t := 11) (v := (.int .i64 (([(at_ : Int), ((andI (at_) (15)) : Int)]).getD k1 0))) rfl)).cons (hF923.get (t := 9) (v := (.slice A25 ((digsOf s).length) c26)) rfl)).cons (hF923.get (t := 8) (v := (.bool false)) rfl)).cons (hF923.get (t := 7) (v := (.pointer (some ⟨g2, 0, none⟩))) rfl)).cons (hF923.get (t := 3) (v := (.agg (byteVals d).toArray)) rfl)).cons (hF923.get (t := 2) (v := (.int .i64 n)) rfl)).cons (hF923.get (t := 1) (v := (.int .i64 at_)) rfl)).cons (hF923.get (t := 0) (v := (.slice A s.length c)) rfl)), ((ext_row ((Ext.refl w253).trans hx891) hg903 hf907 (by omega)).trans hx919), b918, (by omega), (own_base r926 (by omega)), nb924⟩
        · skip
          refine o_new (fun g => (.slice (some ⟨g, 0, none⟩) 1 1)) (byteVals (d)) 26 hF895 rfl rfl rfl rfl (rn_buildSlice (parts1 (hF895.get rfl)) (build_wholeE (vs := [(.agg (byteVals d).toArray)]) El30 rfl rfl (fun v hv => by rw [List.mem_singleton.1 hv]; exact (byteVals_len hd)) (by decide) (by decide) (by simp [Value.cells, byteVals]))) ?_
          intro g927 w928 a933 hF934 z931 z932 b929 hx930; clear hF895
          have b935 : Blk w928 g2 26 (byteVals d) := (b896.ext hx930)
          refine ⟨fun _ _ => ⟨(((Ext.refl w253).trans hx891).trans hx930), b935⟩, ?_⟩
          have b936 : Blk w928 g888 26 [] := (b890.ext hx930)
          exact st832 _ _ ⟨g888, g927, ((((((((((((((((((((((((((((((hF934.nil.cons (hF934.get (t := 86) (v := (.int .i64 0)) rfl)).cons (hF934.get (t := 83) (v := (.slice A146 (n147 / 2) c148)) rfl)).cons (hF934.get (t := 77) (v := (.slice (some ⟨g927, 0, none⟩) 1 1)) rfl)).cons (hF934.get (t := 74) (v := (.slice A146 n147 c148)) rfl)).cons (hF934.get (t := 73) (v := (.slice (some ⟨g888, 0, none⟩) 0 0)) rfl)).cons (hF934.get (t := 72) (v := (.slice A146 n147 c148)) rfl)).cons (hF934.get (t := 69) (v := (.bool (decide (((k2 : Nat) : Int) < (2 : Int))))) rfl)).cons (hF934.get (t := 68) (v := (.int .i64 (k2 : Nat))) rfl)).cons (hF934.get (t := 67) (v := (.int .i64 2)) rfl)).cons (hF934.get (t := 66) (v := (.slice (some ⟨g205, 0, none⟩) 2 2)) rfl)).cons (hF934.get (t := 62) (v := (.bool (decide (((pathF (digsOf s) ((([(at_ : Int), ((andI (at_) (15)) : Int)]).getD k1 0))).2 : Int) ≠ ((pathF (digsOf s) ((([(at_ : Int), ((andI (at_) (15)) : Int)]).getD k1 0))).2 : Int))))) rfl)).cons (hF934.get (t := 39) (v := (.bool (decide (((k1 : Nat) : Int) < (2 : Int))))) rfl)).cons (hF934.get (t := 38) (v := (.int .i64 (k1 : Nat))) rfl)).cons (hF934.get (t := 37) (v := (.int .i64 2)) rfl)).cons (hF934.get (t := 36) (v := (.slice (some ⟨g70, 0, none⟩) 2 2)) rfl)).cons (hF934.get (t := 32) (v := (.bool (!decide (treeD (digsOf s) = treeD (digsOf s))))) rfl)).cons (hF934.get (t := 25) (v := (.bool false)) rfl)).cons (hF934.get (t := 17) (v := (.int .i64 (([(n : Int), (((digsOf s).length : Nat) : Int)]).getD k2 0))) rfl)).cons (hF934.get (t := 15) (v := (.int .i64 ((pathF (digsOf s) ((([(at_ : Int), ((andI (at_) (15)) : Int)]).getD k1 0))).2))) rfl)).cons (hF934.get (t := 14) (v := (.slice A146 n147 c148)) rfl)).cons (hF934.get (t := 13) (v := (.int .i64 ((pathF (digsOf s) ((([(at_ : Int), ((andI (at_) (15)) : Int)]).getD k1 0))).2))) rfl)).cons (hF934.get (t := 12) (v := (.slice A115 n116 c117)) rfl)).cons (hF934.get (t := 11) (v := (.int .i64 (([(at_ : Int), ((andI (at_) (15)) : Int)]).getD k1 0))) rfl)).cons (hF934.get (t := 9) (v := (.slice A25 ((digsOf s).length) c26)) rfl)).cons (hF934.get (t := 8) (v := (.bool false)) rfl)).cons (hF934.get (t := 7) (v := (.pointer (some ⟨g2, 0, none⟩))) rfl)).cons (hF934.get (t := 3) (v := (.agg (byteVals d).toArray)) rfl)).cons (hF934.get (t := 2) (v := (.int .i64 n)) rfl)).cons (hF934.get (t := 1) (v := (.int .i64 at_)) rfl)).cons (hF934.get (t := 0) (v := (.slice A s.length c)) rfl)), (((Ext.refl w253).trans hx891).trans hx930), b936, (by omega), b929, (by omega), (by omega)⟩
      · skip
        refine o_new (fun g => (.slice (some ⟨g, 0, none⟩) 1 1)) (byteVals (d)) 26 hF887 rfl rfl rfl rfl (rn_buildSlice (parts1 (hF887.get rfl)) (build_wholeE (vs := [(.agg (byteVals d).toArray)]) El30 rfl rfl (fun v hv => by rw [List.mem_singleton.1 hv]; exact (byteVals_len hd)) (by decide) (by decide) (by simp [Value.cells, byteVals]))) ?_
        intro g937 w938 a943 hF944 z941 z942 b939 hx940; clear hF887
        have b945 : Blk w938 g2 26 (byteVals d) := (b873.ext hx940)
        refine ⟨fun _ _ => ⟨((Ext.refl w253).trans hx940), b945⟩, ?_⟩
        refine any_one (i := 1) (by decide +kernel) rfl ?_
        refine o_new (fun g => (.slice (some ⟨g, 0, none⟩) 0 0)) [] 26 hF944 rfl rfl rfl rfl (rn_buildSlice (parts0 ) (by kernel_rfl)) ?_
        intro g946 w947 a952 hF953 z950 z951 b948 hx949; clear hF944
        have b954 : Blk w947 g2 26 (byteVals d) := (b945.ext hx949)
        refine ⟨fun _ _ => ⟨(((Ext.refl w253).trans hx940).trans hx949), b954⟩, ?_⟩
        have b955 : Blk w947 g937 26 (byteVals (d)) := (b939.ext hx949)
        exact st832 _ _ ⟨g946, g937, ((((((((((((((((((((((((((((((hF953.nil.cons (hF953.get (t := 86) (v := (.int .i64 0)) rfl)).cons (hF953.get (t := 83) (v := (.slice A146 (n147 / 2) c148)) rfl)).cons (hF953.get (t := 77) (v := (.slice (some ⟨g937, 0, none⟩) 1 1)) rfl)).cons (hF953.get (t := 74) (v := (.slice A146 n147 c148)) rfl)).cons (hF953.get (t := 73) (v := (.slice (some ⟨g946, 0, none⟩) 0 0)) rfl)).cons (hF953.get (t := 72) (v := (.slice A146 n147 c148)) rfl)).cons (hF953.get (t := 69) (v := (.bool (decide (((k2 : Nat) : Int) < (2 : Int))))) rfl)).cons (hF953.get (t := 68) (v := (.int .i64 (k2 : Nat))) rfl)).cons (hF953.get (t := 67) (v := (.int .i64 2)) rfl)).cons (hF953.get (t := 66) (v := (.slice (some ⟨g205, 0, none⟩) 2 2)) rfl)).cons (hF953.get (t := 62) (v := (.bool (decide (((pathF (digsOf s) ((([(at_ : Int), ((andI (at_) (15)) : Int)]).getD k1 0))).2 : Int) ≠ ((pathF (digsOf s) ((([(at_ : Int), ((andI (at_) (15)) : Int)]).getD k1 0))).2 : Int))))) rfl)).cons (hF953.get (t := 39) (v := (.bool (decide (((k1 : Nat) : Int) < (2 : Int))))) rfl)).cons (hF953.get (t := 38) (v := (.int .i64 (k1 : Nat))) rfl)).cons (hF953.get (t := 37) (v := (.int .i64 2)) rfl)).cons (hF953.get (t := 36) (v := (.slice (some ⟨g70, 0, none⟩) 2 2)) rfl)).cons (hF953.get (t := 32) (v := (.bool (!decide (treeD (digsOf s) = treeD (digsOf s))))) rfl)).cons (hF953.get (t := 25) (v := (.bool false)) rfl)).cons (hF953.get (t := 17) (v := (.int .i64 (([(n : Int), (((digsOf s).length : Nat) : Int)]).getD k2 0))) rfl)).cons (hF953.get (t := 15) (v := (.int .i64 ((pathF (digsOf s) ((([(at_ : Int), ((andI (at_) (15)) : Int)]).getD k1 0))).2))) rfl)).cons (hF953.get (t := 14) (v := (.slice A146 n147 c148)) rfl)).cons (hF953.get (t := 13) (v := (.int .i64 ((pathF (digsOf s) ((([(at_ : Int), ((andI (at_) (15)) : Int)]).getD k1 0))).2))) rfl)).cons (hF953.get (t := 12) (v := (.slice A115 n116 c117)) rfl)).cons (hF953.get (t := 11) (v := (.int .i64 (([(at_ : Int), ((andI (at_) (15)) : Int)]).getD k1 0))) rfl)).cons (hF953.get (t := 9) (v := (.slice A25 ((digsOf s).length) c26)) rfl)).cons (hF953.get (t := 8) (v := (.bool false)) rfl)).cons (hF953.get (t := 7) (v := (.pointer (some ⟨g2, 0, none⟩))) rfl)).cons (hF953.get (t := 3) (v := (.agg (byteVals d).toArray)) rfl)).cons (hF953.get (t := 2) (v := (.int .i64 n)) rfl)).cons (hF953.get (t := 1) (v := (.int .i64 at_)) rfl)).cons (hF953.get (t := 0) (v := (.slice A s.length c)) rfl)), (((Ext.refl w253).trans hx940).trans hx949), b948, (by omega), b955, (by omega), (by omega)⟩
    · skip
      refine wp_cond_false (c_false hF241 rfl (decide_eq_false hc243)) ?_
      refine wp_exit ?_
      refine exit_then ?_
      refine exit_then ?_
      refine exit_here ?_
      refine hK102 _ _ ?_
      clear hK102
      refine wp_region_lit ?_
      refine wpl_op (i := 0) rfl (o_val (v := (.int .i64 (k1 + 1 : Nat))) hF241 rfl rfl rfl rfl (rn_addN (a := k1) (b := 1) (hF241.get rfl) rfl (by omega)) ?_)
      intro a956 hF957; clear hF241
      refine wpl_op (i := 1) rfl (o_val (v := (.int .i64 (k1 + 1 : Nat))) hF957 rfl rfl rfl rfl (rn_move (hF957.get rfl)) ?_)
      intro a958 hF959; clear hF957
      refine wpList_nil ?_
      refine ⟨⟨(k1 + 1), ((((((((((((hF959.nil.cons (q_get hF959 (t := 38) rfl (by first | rfl | (congr 1; omega) | (congr 1; done)))).cons (q_get hF959 (t := 37) rfl rfl)).cons (q_get hF959 (t := 36) rfl rfl)).cons (q_get hF959 (t := 32) rfl rfl)).cons (q_get hF959 (t := 9) rfl rfl)).cons (q_get hF959 (t := 25) rfl rfl)).cons (q_get hF959 (t := 8) rfl rfl)).cons (q_get hF959 (t := 7) rfl rfl)).cons (q_get hF959 (t := 3) rfl rfl)).cons (q_get hF959 (t := 2) rfl rfl)).cons (q_get hF959 (t := 1) rfl rfl)).cons (q_get hF959 (t := 0) rfl rfl)), (by omega), ((Ext.refl w).trans hx225), b227, b228, hf230, (by omega)⟩, ?_⟩
      rw [hF959.get (t := 38) rfl, hL93.get (t := 38) rfl]; simp [intOf] <;> omega
  · skip
    refine wp_cond_false (c_false hF99 rfl (decide_eq_false hc101)) ?_
    refine wp_exit ?_
    refine exit_then ?_
    refine exit_then ?_
    refine exit_here ?_
    refine hK62 _ _ ?_
    clear hK62
    refine wp_seq_k (fun K960 hK960 => ?_)
    refine wp_region_lit ?_
    refine wpl_op (i := 0) rfl (o_val (v := (.bool true)) hF99 rfl rfl rfl rfl (rn_assign rfl) ?_)
    intro a961 hF962; clear hF99
    refine wpList_nil ?_
    refine hK960 _ _ ?_
    clear hK960
    refine wp_ret ?_
    refine ret1 hF962 rfl rfl ?_
    exact ⟨congrArg (fun b => Ending.returned (.bool b)) (rfl : true = true), ((Ext.refl w).trans hx87)⟩

end Go.Proofs.YtgodliookpgliaaDoor
