/- Contracts of the reference's Tagged, half, node. -/
import Derived.Test.YtgodliookpgliaaDoorProg
import Derived.Test.YtgodliookpgliaaDoorRefC3
import Derived.Test.YtgodliookpgliaaDoorDigJ
import Derived.Test.YtgodliookpgliaaDoorWk9
import Derived.KernelRfl
namespace Go.Proofs.YtgodliookpgliaaDoor
open Go.RowKit

variable {S S' : Nat → Prop}

set_option maxRecDepth 100000 in
set_option maxHeartbeats 1000000 in
theorem rtagged_any (tag : List UInt8) (A : Option Addr) (c : Nat) (b : List UInt8) (w : World) (hf : Fl S w 1 (.slice A b.length c) b.length (byteVals b)) (ht : tag.length ≤ 70368744177664) (hb : b.length ≤ 35184372088832) :
    Calls Tryd.prog 14 #[strOf tag, .slice A b.length c] w (fun e w' => e = .returned (.agg (byteVals (tagged tag b)).toArray) ∧ Ext w w') := by
  have hc : Fl (Clip S w) w 1 (.slice A b.length c) b.length (byteVals b) := hf.clip
  have hcc := (Fl.cel hc).2.1
  refine calls_enter (l := [(strOf tag), (.slice A b.length c)]) Tryd.func14 rfl rfl rfl (fun aA hF => ?_)
  refine wp_seq_k (fun K1 hK1 => ?_)
  refine wp_region_lit ?_
  refine wpl_op (i := 0) rfl (o_new (fun g => (.pointer (some ⟨g, 0, none⟩))) (byteVals (List.replicate 32 0)) 26 hF rfl rfl rfl rfl (by kernel_rfl) ?_)
  intro g2 w3 a8 hF9 z6 z7 b4 hx5; clear hF
  refine wpList_nil ?_
  refine hK1 _ _ ?_
  clear hK1
  refine wp_seq_k (fun K10 hK10 => ?_)
  refine wp_region_lit ?_
  refine wpl_op (i := 0) rfl (o_val (v := (strOf tag)) hF9 rfl rfl rfl rfl (rn_move (hF9.get rfl)) ?_)
  intro a11 hF12; clear hF9
  refine wpl_op (i := 1) rfl (o_strB (l := tag) hF12 rfl rfl rfl rfl rfl (hF12.get rfl) Tryd.underlying9 Tryd.underlying22 Tryd.underlying5 (by omega) ?_)
  intro g13 c14 w15 a21 hF22 z18 z19 z20 hf16 hx17; clear hF12
  refine wpl_op (i := 2) rfl (o_call hF22 rfl rfl rfl rfl (rn_call (args1 (hF22.get rfl)) rfl (by kernel_rfl)) (rsum_at (v := (.slice (some ⟨g13, 0, none⟩) tag.length c14)) (n := tag.length) tag _ hf16 (by omega)) ?_)
  rintro _ w23 ⟨rfl, hx24⟩
  refine ⟨_, rfl, ?_⟩; intro a25 hF26; clear hF22; have z27 := hx24.size
  refine wpl_op (i := 3) rfl (o_new (fun g => (.pointer (some ⟨g, 0, none⟩))) (byteVals (List.replicate 32 0)) 26 hF26 rfl rfl rfl rfl (by kernel_rfl) ?_)
  intro g28 w29 a34 hF35 z32 z33 b30 hx31; clear hF26
  refine wpl_op (i := 4) rfl (o_store (cells := (byteVals (bsum tag))) hF35 rfl rfl rfl rfl (hF35.get rfl) (hF35.get rfl) b30 ((by kernel_rfl : (Tryd.prog.info? 26).map (·.size) = some 32).trans (congrArg some (byteVals_len (bsum_len _)).symm)) ((byteVals_len (show List.length (List.replicate 32 0) = _ from List.length_replicate)).trans (byteVals_len (bsum_len _)).symm) (byteVals_one _) ?_)
  intro w36 b37 hg38; have z39 := hg38.size
  refine wpList_nil ?_
  refine hK10 _ _ ?_
  clear hK10
  refine wp_seq_k (fun K40 hK40 => ?_)
  refine wp_region_lit ?_
  refine wpl_op (i := 0) rfl (o_new (fun g => (.slice (some ⟨g, 0, none⟩) 0 0)) [] 5 hF35 rfl rfl rfl rfl (rn_buildSlice (parts0 ) (by kernel_rfl)) ?_)
  intro g41 w42 a47 hF48 z45 z46 b43 hx44; clear hF35
  refine wpl_op (i := 1) rfl (o_val (v := (.slice (some ⟨g28, 0, none⟩) 32 32)) hF48 rfl rfl rfl rfl (rn_arrAll Tryd.underlying26 (by kernel_rfl : (Tryd.prog.info? 5).map (·.size) = some 1) (hF48.get rfl)) ?_)
  intro a49 hF50; clear hF48
  have b52 : Blk w42 g28 26 (byteVals (bsum tag)) := (b37.ext hx44)
  have hf60 := (own_blk0 (k := 1) b43)
  refine wpl_op (i := 2) rfl (o_appA (zs := byteVals (bsum tag)) El22 hF50 rfl rfl rfl rfl rfl (hF50.get rfl) (hF50.get rfl) hf60 (Fl.cel (Fl.blk (S := fun b => b = g28) (k := 1) (n := 32) (c := 32) b52 (by rw [byteVals_len (bsum_len _), Nat.mul_one]) (byteVals_one _) (by omega) rfl)).2.2 (by omega) (by omega) (by omega) (List.nil_append _) ?_)
  intro A53 c54 w55 a61 hF62 r56 hg57 z58 z59; clear hF50; have z63 := hg57.size
  refine wpl_op (i := 3) rfl (o_val (v := (.slice A b.length c)) hF62 rfl rfl rfl rfl (rn_move (hF62.get rfl)) ?_)
  intro a64 hF65; clear hF62
  have d66 := (hc.pres (Pres.row (((((((Pres.refl w).ext hx5).ext hx17).ext hx24).ext hx31).grownN hg38 (fun h => by simp only [Clip] at h; omega)).ext hx44) hg57 hf60 (fun b hb h => by simp only [Clip] at h; omega)))
  have hf74 := r56
  refine wpl_op (i := 4) rfl (o_appA (zs := byteVals ((bsum tag) ++ b)) El22 hF65 rfl rfl rfl rfl rfl (hF65.get rfl) (hF65.get rfl) hf74 (Fl.cel d66).2.2 (by omega) (by omega) (by omega) (byteVals_app _ _) ?_)
  intro A67 c68 w69 a75 hF76 r70 hg71 z72 z73; clear hF65; have z77 := hg71.size
  refine wpl_op (i := 5) rfl (o_call hF76 rfl rfl rfl rfl (rn_call (args1 (hF76.get rfl)) rfl (by kernel_rfl)) (rsum_at (v := (.slice A67 ((0 + 32) + b.length) c68)) (n := (0 + 32) + b.length) ((bsum tag) ++ b) _ (Fl.own (S := fun b => g41 ≤ b) r70 (fun b hb => hb) (byteVals_one _)) (by omega)) ?_)
  rintro _ w78 ⟨rfl, hx79⟩
  refine ⟨_, rfl, ?_⟩; intro a80 hF81; clear hF76; have z82 := hx79.size
  have b86 : Blk w78 g2 26 (byteVals (List.replicate 32 0)) := ((grown_blk hf74 hg71 (grown_blk hf60 hg57 (((((b4.ext hx17).ext hx24).ext hx31).grownN hg38 (by omega)).ext hx44) (by decide)) (by decide)).ext hx79)
  refine wpl_op (i := 6) rfl (o_store (cells := (byteVals (bsum ((bsum tag) ++ b)))) hF81 rfl rfl rfl rfl (hF81.get rfl) (hF81.get rfl) b86 ((by kernel_rfl : (Tryd.prog.info? 26).map (·.size) = some 32).trans (congrArg some (byteVals_len (bsum_len _)).symm)) ((byteVals_len (show List.length (List.replicate 32 0) = _ from List.length_replicate)).trans (byteVals_len (bsum_len _)).symm) (byteVals_one _) ?_)
  intro w83 b84 hg85; have z87 := hg85.size
  refine wpList_nil ?_
  refine hK40 _ _ ?_
  clear hK40
  have hF88 := ((((hF81.nil.cons (hF81.get (t := 5) (v := (.pointer (some ⟨g28, 0, none⟩))) rfl)).cons (hF81.get (t := 4) (v := (.pointer (some ⟨g2, 0, none⟩))) rfl)).cons (hF81.get (t := 1) (v := (.slice A b.length c)) rfl)).cons (hF81.get (t := 0) (v := (strOf tag)) rfl))
  clear hF81
  refine wp_ret ?_
  refine retC hF88 rfl rfl b84 Tryd.underlying26 rfl ((by kernel_rfl : (Tryd.prog.info? 26).map (·.size) = some 32).trans (congrArg some (byteVals_len (bsum_len _)).symm)) ?_
  exact ⟨rfl, (((ext_row (ext_row (((((((Ext.refl w).trans hx5).trans hx17).trans hx24).trans hx31).grownN hg38 (by omega)).trans hx44) hg57 hf60 (by omega)) hg71 hf74 (by omega)).trans hx79).grownN hg85 (by omega))⟩

theorem rtagged_at (tag : List UInt8) {v : Value} {n : Nat} (b : List UInt8) (w : World) (hf : Fl S w 1 v n (byteVals b)) (ht : tag.length ≤ 70368744177664) (hb : n ≤ 35184372088832) : Calls Tryd.prog 14 #[strOf tag, v] w (fun e w' => e = .returned (.agg (byteVals (tagged tag b)).toArray) ∧ Ext w w') := by
  have hm := hf.blen
  subst hm
  obtain ⟨A, c, rfl, _⟩ := hf.form
  exact rtagged_any tag A c b w hf ht hb

set_option maxRecDepth 100000 in
set_option maxHeartbeats 1000000 in
theorem rhalf_any (n : Nat) (w : World) (h2 : 2 ≤ n) (hm : n ≤ 4611686018427387904) :
    Calls Tryd.prog 31 #[.int .i64 (n : Nat)] w (fun e w' => e = .returned (.int .i64 (half n : Nat)) ∧ Ext w w') := by
  refine calls_enter (l := [(.int .i64 (n : Nat))]) Tryd.func31 rfl rfl rfl (fun aA hF => ?_)
  refine wp_seq_k (fun K1 hK1 => ?_)
  refine wp_region_lit ?_
  refine wpl_op (i := 0) rfl (o_val (v := (.int .i64 0)) hF rfl rfl rfl rfl (rn_assign rfl) ?_)
  intro a2 hF3; clear hF
  refine wpList_nil ?_
  refine hK1 _ _ ?_
  clear hK1
  refine wp_seq_k (fun K4 hK4 => ?_)
  refine wp_region_lit ?_
  refine wpl_op (i := 0) rfl (o_val (v := (.int .i64 1)) hF3 rfl rfl rfl rfl (rn_assign rfl) ?_)
  intro a5 hF6; clear hF3
  refine wpList_nil ?_
  refine hK4 _ _ ?_
  clear hK4
  refine wp_seq_k (fun K7 hK7 => ?_)
  refine wp_block ?_
  refine wp_loop (fun a' W => ∃ (k : Nat) (j : Nat), Sl 11 [(0, (.int .i64 (n : Nat))), (2, (.int .i64 0)), (3, (.int .i64 (k : Nat)))] a' ∧ k = 2 ^ j ∧ k < n ∧ 1 ≤ k ∧ Ext w W ∧ w.heap.size ≤ W.heap.size) (fun a' _ => n - (intOf (a'.eval (.tmp 3))).toNat) ⟨1, 0, (((hF6.nil.cons (q_get hF6 (t := 3) rfl (by first | rfl | (congr 1; omega) | (congr 1; done)))).cons (q_get hF6 (t := 2) rfl rfl)).cons (q_get hF6 (t := 0) rfl rfl)), rfl, (by omega), (by omega), (Ext.refl w), (Nat.le_refl _)⟩ ?_
  clear hF6
  rintro a8 w9 ⟨k, j, hF10, hp12, hp13, hp14, hx11, hf15⟩
  have hL16 := hF10
  have z17 := hx11.size
  refine wp_seq_k (fun K18 hK18 => ?_)
  refine wp_seq_k (fun K19 hK19 => ?_)
  refine wp_region_lit ?_
  refine wpl_op (i := 0) rfl (o_val (v := (.int .i64 (k : Nat))) hF10 rfl rfl rfl rfl (rn_move (hF10.get rfl)) ?_)
  intro a20 hF21; clear hF10
  refine wpl_op (i := 1) rfl (o_val (v := (.int .i64 (2 * k : Nat))) hF21 rfl rfl rfl rfl (rn_mulN (a := 2) (b := k) rfl (hF21.get rfl) (by omega)) ?_)
  intro a22 hF23; clear hF21
  refine wpl_op (i := 2) rfl (o_val (v := (.int .i64 (n : Nat))) hF23 rfl rfl rfl rfl (rn_move (hF23.get rfl)) ?_)
  intro a24 hF25; clear hF23
  refine wpl_op (i := 3) rfl (o_val (v := (.bool (decide (((2 * k : Nat) : Int) < ((n : Nat) : Int))))) hF25 rfl rfl rfl rfl (rn_lss (hF25.get rfl) (hF25.get rfl)) ?_)
  intro a26 hF27; clear hF25
  refine wpList_nil ?_
  refine hK19 _ _ ?_
  clear hK19
  by_cases hc28 : ((2 * k : Nat) : Int) < ((n : Nat) : Int)
  · skip
    refine wp_cond_true (c_true hF27 rfl (decide_eq_true hc28)) ?_
    refine wp_skip ?_
    refine hK18 _ _ ?_
    clear hK18
    refine wp_block ?_
    refine wp_region_lit ?_
    refine wpl_op (i := 0) rfl (o_val (v := (.int .i64 (k : Nat))) hF27 rfl rfl rfl rfl (rn_move (hF27.get rfl)) ?_)
    intro a29 hF30; clear hF27
    refine wpl_op (i := 1) rfl (o_val (v := (.int .i64 (2 * k : Nat))) hF30 rfl rfl rfl rfl (rn_mulN (a := 2) (b := k) rfl (hF30.get rfl) (by omega)) ?_)
    intro a31 hF32; clear hF30
    refine wpl_op (i := 2) rfl (o_val (v := (.int .i64 (2 * k : Nat))) hF32 rfl rfl rfl rfl (rn_assign (hF32.get rfl)) ?_)
    intro a33 hF34; clear hF32
    refine wpList_nil ?_
    refine ⟨⟨2 * k, (j + 1), (((hF34.nil.cons (q_get hF34 (t := 3) rfl (by first | rfl | (congr 1; omega) | (congr 1; done)))).cons (q_get hF34 (t := 2) rfl rfl)).cons (q_get hF34 (t := 0) rfl rfl)), (by rw [Nat.pow_succ]; omega), (by omega), (by omega), ((Ext.refl w).trans hx11), (by omega)⟩, ?_⟩
    rw [hF34.get (t := 3) rfl, hL16.get (t := 3) rfl]; simp [intOf] <;> omega
  · skip
    refine wp_cond_false (c_false hF27 rfl (decide_eq_false hc28)) ?_
    refine wp_exit ?_
    refine exit_then ?_
    refine exit_then ?_
    refine exit_here ?_
    refine hK7 _ _ ?_
    clear hK7
    refine wp_seq_k (fun K35 hK35 => ?_)
    refine wp_region_lit ?_
    refine wpl_op (i := 0) rfl (o_val (v := (.int .i64 (k : Nat))) hF27 rfl rfl rfl rfl (rn_move (hF27.get rfl)) ?_)
    intro a36 hF37; clear hF27
    refine wpl_op (i := 1) rfl (o_val (v := (.int .i64 (k : Nat))) hF37 rfl rfl rfl rfl (rn_assign (hF37.get rfl)) ?_)
    intro a38 hF39; clear hF37
    refine wpList_nil ?_
    refine hK35 _ _ ?_
    clear hK35
    have hF40 := ((((hF39.nil.cons (hF39.get (t := 7) (v := (.bool (decide (((2 * k : Nat) : Int) < ((n : Nat) : Int))))) rfl)).cons (hF39.get (t := 3) (v := (.int .i64 (k : Nat))) rfl)).cons (hF39.get (t := 2) (v := (.int .i64 (k : Nat))) rfl)).cons (hF39.get (t := 0) (v := (.int .i64 (n : Nat))) rfl))
    clear hF39
    refine wp_ret ?_
    refine ret1 hF40 rfl rfl ?_
    exact ⟨by rw [half_unique (n := n) (k := k) j hp12 (by omega) (by omega)], ((Ext.refl w).trans hx11)⟩

set_option maxRecDepth 100000 in
set_option maxHeartbeats 1000000 in
theorem rnode_any (d d2 : List UInt8) (w : World) (hd : d.length = 32) (hd2 : d2.length = 32) :
    Calls Tryd.prog 32 #[.agg (byteVals d).toArray, .agg (byteVals d2).toArray] w (fun e w' => e = .returned (.agg (byteVals (nodeD d d2)).toArray) ∧ Ext w w') := by
  refine calls_enter (l := [(.agg (byteVals d).toArray), (.agg (byteVals d2).toArray)]) Tryd.func32 rfl rfl rfl (fun aA hF => ?_)
  refine wp_seq_k (fun K1 hK1 => ?_)
  refine wp_region_lit ?_
  refine wpl_op (i := 0) rfl (o_new (fun g => (.pointer (some ⟨g, 0, none⟩))) (byteVals d) 26 hF rfl rfl rfl rfl (rn_box (hF.get rfl) (box_arr _)) ?_)
  intro g2 w3 a8 hF9 z6 z7 b4 hx5; clear hF
  refine wpl_op (i := 1) rfl (o_new (fun g => (.pointer (some ⟨g, 0, none⟩))) (byteVals d2) 26 hF9 rfl rfl rfl rfl (rn_box (hF9.get rfl) (box_arr _)) ?_)
  intro g10 w11 a16 hF17 z14 z15 b12 hx13; clear hF9
  refine wpl_op (i := 2) rfl (o_new (fun g => (.pointer (some ⟨g, 0, none⟩))) (byteVals (List.replicate 32 0)) 26 hF17 rfl rfl rfl rfl (by kernel_rfl) ?_)
  intro g18 w19 a24 hF25 z22 z23 b20 hx21; clear hF17
  refine wpList_nil ?_
  refine hK1 _ _ ?_
  clear hK1
  refine wp_seq_k (fun K26 hK26 => ?_)
  have hx28 : ∃ W, w19.drew = W ∧ Ext w19 W := ⟨_, rfl, (Ext.refl _).drew⟩
  obtain ⟨w27, e29, hx28⟩ := hx28
  have z30 := hx28.size
  refine any_start (fun W => Ext w27 W ∧ Blk W g2 26 (byteVals d) ∧ Blk W g10 26 (byteVals d2) ∧ Blk W g18 26 (byteVals (List.replicate 32 0))) (fun i => i == 6) 7 #[false, false, false, false, false, false, false] rfl rfl rfl ?_
  rw [e29]; clear e29
  refine any_pure (i := 1) (v := (.slice (some ⟨g2, 0, none⟩) 32 32)) hF25 (by decide +kernel) (by decide +kernel) rfl rfl rfl rfl (fun _ _ _ _ h => h) rfl (fun W => (rn_arrAll Tryd.underlying26 (by kernel_rfl : (Tryd.prog.info? 5).map (·.size) = some 1) (hF25.get rfl))) ?_
  intro a31 hF32; clear hF25
  refine any_pure (i := 3) (v := (.slice (some ⟨g10, 0, none⟩) 32 32)) hF32 (by decide +kernel) (by decide +kernel) rfl rfl rfl rfl (fun _ _ _ _ h => h) rfl (fun W => (rn_arrAll Tryd.underlying26 (by kernel_rfl : (Tryd.prog.info? 5).map (·.size) = some 1) (hF32.get rfl))) ?_
  intro a33 hF34; clear hF32
  refine any_one (i := 0) (by decide +kernel) rfl ?_
  refine o_new (fun g => (.slice (some ⟨g, 0, none⟩) 0 0)) [] 5 hF34 rfl rfl rfl rfl (rn_buildSlice (parts0 ) (by kernel_rfl)) ?_
  intro g35 w36 a41 hF42 z39 z40 b37 hx38; clear hF34
  have b43 : Blk w36 g2 26 (byteVals d) := ((((b4.ext hx13).ext hx21).ext hx28).ext hx38)
  have b44 : Blk w36 g10 26 (byteVals d2) := (((b12.ext hx21).ext hx28).ext hx38)
  have b45 : Blk w36 g18 26 (byteVals (List.replicate 32 0)) := ((b20.ext hx28).ext hx38)
  refine ⟨fun _ _ => ⟨((Ext.refl w27).trans hx38), b43, b44, b45⟩, ?_⟩
  refine any_one (i := 2) (by decide +kernel) rfl ?_
  have hf54 := (own_blk0 (k := 1) b37)
  refine o_appA (zs := byteVals d) El22 hF42 rfl rfl rfl rfl rfl (hF42.get rfl) (hF42.get rfl) hf54 (Fl.cel (Fl.blk (S := fun b => b = g2) (k := 1) (n := 32) (c := 32) b43 (by rw [byteVals_len hd, Nat.mul_one]) (byteVals_one _) (by omega) rfl)).2.2 (by omega) (by omega) (by omega) (List.nil_append _) ?_
  intro A47 c48 w49 a55 hF56 r50 hg51 z52 z53; clear hF42; have z57 := hg51.size
  have b58 : Blk w49 g2 26 (byteVals d) := (grown_blk hf54 hg51 b43 (by decide))
  have b59 : Blk w49 g10 26 (byteVals d2) := (grown_blk hf54 hg51 b44 (by decide))
  have b60 : Blk w49 g18 26 (byteVals (List.replicate 32 0)) := (grown_blk hf54 hg51 b45 (by decide))
  refine ⟨fun _ _ => ⟨(ext_row ((Ext.refl w27).trans hx38) hg51 hf54 (by omega)), b58, b59, b60⟩, ?_⟩
  refine any_one (i := 4) (by decide +kernel) rfl ?_
  have hf68 := r50
  refine o_appA (zs := byteVals (d ++ d2)) El22 hF56 rfl rfl rfl rfl rfl (hF56.get rfl) (hF56.get rfl) hf68 (Fl.cel (Fl.blk (S := fun b => b = g10) (k := 1) (n := 32) (c := 32) b59 (by rw [byteVals_len hd2, Nat.mul_one]) (byteVals_one _) (by omega) rfl)).2.2 (by omega) (by omega) (by omega) (byteVals_app _ _) ?_
  intro A61 c62 w63 a69 hF70 r64 hg65 z66 z67; clear hF56; have z71 := hg65.size
  have b72 : Blk w63 g2 26 (byteVals d) := (grown_blk hf68 hg65 b58 (by decide))
  have b73 : Blk w63 g10 26 (byteVals d2) := (grown_blk hf68 hg65 b59 (by decide))
  have b74 : Blk w63 g18 26 (byteVals (List.replicate 32 0)) := (grown_blk hf68 hg65 b60 (by decide))
  refine ⟨fun _ _ => ⟨(ext_row (ext_row ((Ext.refl w27).trans hx38) hg51 hf54 (by omega)) hg65 hf68 (by omega)), b72, b73, b74⟩, ?_⟩
  refine any_one (i := 5) (by decide +kernel) rfl ?_
  refine o_call hF70 rfl rfl rfl rfl (rn_call (args2 rfl (hF70.get rfl)) rfl (by kernel_rfl)) (rtagged_at ([110, 111, 100, 101]) (v := (.slice A61 ((0 + 32) + 32) c62)) (n := (0 + 32) + 32) (d ++ d2) _ (Fl.own (S := fun b => g35 ≤ b) r64 (fun b hb => hb) (byteVals_one _)) (by decide) (by omega)) ?_
  rintro _ w75 ⟨rfl, hx76⟩
  refine ⟨_, rfl, ?_⟩; intro a77 hF78; clear hF70; have z79 := hx76.size
  have b80 : Blk w75 g2 26 (byteVals d) := (b72.ext hx76)
  have b81 : Blk w75 g10 26 (byteVals d2) := (b73.ext hx76)
  have b82 : Blk w75 g18 26 (byteVals (List.replicate 32 0)) := (b74.ext hx76)
  refine ⟨fun _ _ => ⟨((ext_row (ext_row ((Ext.refl w27).trans hx38) hg51 hf54 (by omega)) hg65 hf68 (by omega)).trans hx76), b80, b81, b82⟩, ?_⟩
  refine any_one (i := 6) (by decide +kernel) rfl ?_
  refine o_store (cells := (byteVals (tagged ([110, 111, 100, 101]) (d ++ d2)))) hF78 rfl rfl rfl rfl (hF78.get rfl) (hF78.get rfl) b82 ((by kernel_rfl : (Tryd.prog.info? 26).map (·.size) = some 32).trans (congrArg some (byteVals_len (tagged_len _ _)).symm)) ((byteVals_len (show List.length (List.replicate 32 0) = _ from List.length_replicate)).trans (byteVals_len (tagged_len _ _)).symm) (byteVals_one _) ?_
  intro w83 b84 hg85; have z86 := hg85.size
  refine ⟨fun h => absurd h (by decide), ?_⟩
  refine any_nil (by decide +kernel) ?_
  refine hK26 _ _ ?_
  clear hK26
  have hF87 := (((((hF78.nil.cons (hF78.get (t := 4) (v := (.pointer (some ⟨g18, 0, none⟩))) rfl)).cons (hF78.get (t := 3) (v := (.pointer (some ⟨g10, 0, none⟩))) rfl)).cons (hF78.get (t := 2) (v := (.pointer (some ⟨g2, 0, none⟩))) rfl)).cons (hF78.get (t := 1) (v := (.agg (byteVals d2).toArray)) rfl)).cons (hF78.get (t := 0) (v := (.agg (byteVals d).toArray)) rfl))
  clear hF78
  refine wp_ret ?_
  refine retC hF87 rfl rfl b84 Tryd.underlying26 rfl ((by kernel_rfl : (Tryd.prog.info? 26).map (·.size) = some 32).trans (congrArg some (byteVals_len (tagged_len _ _)).symm)) ?_
  exact ⟨rfl, (((ext_row (ext_row ((((((Ext.refl w).trans hx5).trans hx13).trans hx21).trans hx28).trans hx38) hg51 hf54 (by omega)) hg65 hf68 (by omega)).trans hx76).grownN hg85 (by omega))⟩

end Go.Proofs.YtgodliookpgliaaDoor
