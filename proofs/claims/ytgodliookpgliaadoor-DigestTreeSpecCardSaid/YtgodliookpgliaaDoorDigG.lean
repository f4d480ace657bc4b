/- Contracts of half, Tagged, leaf, node. -/
import Derived.Test.YtgodliookpgliaaDoorProg
import Derived.Test.YtgodliookpgliaaDoorDigE
import Derived.Test.YtgodliookpgliaaDoorDigF
import Derived.Test.YtgodliookpgliaaDoorTree
import Derived.Test.YtgodliookpgliaaDoorShelf
import Derived.Lib.ItoaNum
import Derived.KernelRfl
namespace Go.Proofs.YtgodliookpgliaaDoor
open Go.RowKit

variable {S S' : Nat → Prop}

def tagged (tag b : List UInt8) : List UInt8 := bsum (bsum tag ++ b)
def leafD (d : List UInt8) : List UInt8 := tagged [108, 101, 97, 102] d
def nodeD (a b : List UInt8) : List UInt8 := tagged [110, 111, 100, 101] (a ++ b)
def emptyD : List UInt8 := tagged [101, 109, 112, 116, 121] []
def treeD (l : List (List UInt8)) : List UInt8 := tree nodeD leafD emptyD l
theorem tagged_len (t b : List UInt8) : (tagged t b).length = 32 := bsum_len _
theorem leafD_len (d : List UInt8) : (leafD d).length = 32 := bsum_len _
theorem nodeD_len (a b : List UInt8) : (nodeD a b).length = 32 := bsum_len _
theorem treeD_len (l : List (List UInt8)) : (treeD l).length = 32 := by
  unfold treeD
  rw [tree]
  split
  · exact bsum_len _
  · split
    · exact bsum_len _
    · exact bsum_len _
theorem half_bits {n : Nat} (h : 2 ≤ n) (h2 : n ≤ 9223372036854775807) : 1 * 2 ^ (Lib.bitLen (((UInt64.ofNat (n - 1)).toNat : Nat) : Int).toNat - 1) = half n ∧ 1 ≤ Lib.bitLen (((UInt64.ofNat (n - 1)).toNat : Nat) : Int).toNat ∧ Lib.bitLen (((UInt64.ofNat (n - 1)).toNat : Nat) : Int).toNat ≤ 63 := by
  rw [Int.toNat_natCast, UInt64.toNat_ofNat_of_lt' (by show n - 1 < 18446744073709551616; omega)]
  obtain ⟨h3, h4, h5⟩ := Lib.bitLenAux_bounds 64 (n - 1) (by omega) (by omega)
  have h6 := Lib.bitLen_le (n - 1) 63 (by omega) (by omega)
  unfold half
  have : (n - 1).log2 = Lib.bitLen (n - 1) - 1 := (Nat.log2_eq_iff (by omega)).2 ⟨h4, by unfold Lib.bitLen; rw [show Lib.bitLenAux 64 (n - 1) - 1 + 1 = Lib.bitLenAux 64 (n - 1) by omega]; exact h5⟩
  rw [this]
  exact ⟨Nat.one_mul _, h3, h6⟩

set_option maxRecDepth 100000 in
set_option maxHeartbeats 1000000 in
theorem half_any (n : Nat) (w : World) (h2 : 2 ≤ n) (hm : n ≤ 9223372036854775807) :
    Calls Tryd.prog 29 #[.int .i64 (n : Nat)] w (fun e w' => e = .returned (.int .i64 (half n : Nat)) ∧ Ext w w') := by
  obtain ⟨hb1, hb2, hb3⟩ := half_bits h2 hm
  have hlt := half_lt h2
  refine calls_enter (l := [(.int .i64 (n : Nat))]) Tryd.func29 rfl rfl rfl (fun aA hF => ?_)
  refine wp_seq_k (fun K1 hK1 => ?_)
  refine wp_region_lit ?_
  refine wpl_op (i := 0) rfl (o_val (v := (.int .i64 0)) hF rfl rfl rfl rfl (rn_assign rfl) ?_)
  intro a2 hF3; clear hF
  refine wpList_nil ?_
  refine hK1 _ _ ?_
  clear hK1
  refine wp_seq_k (fun K4 hK4 => ?_)
  refine wp_region_lit ?_
  refine wpl_op (i := 0) rfl (o_val (v := (.int .i64 (n : Nat))) hF3 rfl rfl rfl rfl (rn_move (hF3.get rfl)) ?_)
  intro a5 hF6; clear hF3
  refine wpl_op (i := 1) rfl (o_val (v := (.int .i64 (n - 1 : Nat))) hF6 rfl rfl rfl rfl (rn_subN (a := n) (b := 1) (hF6.get rfl) rfl (by omega) (by omega)) ?_)
  intro a7 hF8; clear hF6
  refine wpl_op (i := 2) rfl (o_val (v := (.int .u64 ((UInt64.ofNat (n - 1)).toNat : Nat))) hF8 rfl rfl rfl rfl (rn_convW Tryd.underlying3 Tryd.underlying65 (hF8.get rfl) (cvi_64 (n - 1) (by omega))) ?_)
  intro a9 hF10; clear hF8
  refine wpl_op (i := 3) rfl (o_call hF10 rfl rfl rfl rfl (rn_call (args1 (hF10.get rfl)) rfl (by kernel_rfl)) (Tryd.bits_Len _ _ (by omega) (by have := ((UInt64.ofNat (n - 1))).toNat_lt; omega)) ?_)
  rintro _ w11 ⟨rfl, hx12⟩
  have hx12 := Ext.of_eq hx12
  refine ⟨_, rfl, ?_⟩; intro a13 hF14; clear hF10; have z15 := hx12.size
  refine wpl_op (i := 4) rfl (o_val (v := (.int .i64 ((Lib.bitLen ((((UInt64.ofNat (n - 1))).toNat : Nat) : Int).toNat) - 1 : Nat))) hF14 rfl rfl rfl rfl (rn_subN (a := Lib.bitLen ((((UInt64.ofNat (n - 1))).toNat : Nat) : Int).toNat) (b := 1) (hF14.get rfl) rfl (by omega) (by omega)) ?_)
  intro a16 hF17; clear hF14
  refine wpl_op (i := 5) rfl (o_val (v := (.int .i64 (half n : Nat))) hF17 rfl rfl rfl rfl (by rw [← hb1]; exact rn_shlN rfl (hF17.get rfl) (by omega) (by omega)) ?_)
  intro a18 hF19; clear hF17
  refine wpl_op (i := 6) rfl (o_val (v := (.int .i64 (half n : Nat))) hF19 rfl rfl rfl rfl (rn_assign (hF19.get rfl)) ?_)
  intro a20 hF21; clear hF19
  refine wpList_nil ?_
  refine hK4 _ _ ?_
  clear hK4
  have hF22 := ((hF21.nil.cons (hF21.get (t := 2) (v := (.int .i64 (half n : Nat))) rfl)).cons (hF21.get (t := 0) (v := (.int .i64 (n : Nat))) rfl))
  clear hF21
  refine wp_ret ?_
  refine ret1 hF22 rfl rfl ?_
  exact ⟨rfl, ((Ext.refl w).trans hx12)⟩

set_option maxRecDepth 100000 in
set_option maxHeartbeats 1000000 in
theorem tagged_any (tag : List UInt8) (A : Option Addr) (c : Nat) (b : List UInt8) (w : World) (hf : Fl S w 1 (.slice A b.length c) b.length (byteVals b)) (hG : Glob w) (ht : tag.length ≤ 9223372036854775807) (hb : b.length ≤ 140737488355296) :
    Calls Tryd.prog 13 #[strOf tag, .slice A b.length c] w (fun e w' => e = .returned (.agg (byteVals (tagged tag b)).toArray) ∧ Ext w w') := by
  have hc : Fl (Clip S w) w 1 (.slice A b.length c) b.length (byteVals b) := hf.clip
  have hcc := (Fl.cel hc).2.1
  refine calls_enter (l := [(strOf tag), (.slice A b.length c)]) Tryd.func13 rfl rfl rfl (fun aA hF => ?_)
  refine wp_seq_k (fun K1 hK1 => ?_)
  refine wp_region_lit ?_
  refine wpl_op (i := 0) rfl (o_new (fun g => (.pointer (some ⟨g, 0, none⟩))) (byteVals (List.replicate 32 0)) 26 hF rfl rfl rfl rfl (by kernel_rfl) ?_)
  intro g2 w3 a8 hF9 z6 z7 b4 hx5; clear hF
  refine wpList_nil ?_
  refine hK1 _ _ ?_
  clear hK1
  refine wp_seq_k (fun K10 hK10 => ?_)
  refine wp_region_lit ?_
  refine wpl_op (i := 0) rfl (o_val (v := (strOf tag)) hF9 rfl rfl rfl rfl (rn_move (hF9.get rfl)) ?_)
  intro a11 hF12; clear hF9
  refine wpl_op (i := 1) rfl (o_strB (l := tag) hF12 rfl rfl rfl rfl rfl (hF12.get rfl) Tryd.underlying9 Tryd.underlying22 Tryd.underlying5 (by omega) ?_)
  intro g13 c14 w15 a21 hF22 z18 z19 z20 hf16 hx17; clear hF12
  refine wpl_op (i := 2) rfl (o_call hF22 rfl rfl rfl rfl (rn_call (args1 (hF22.get rfl)) rfl (by kernel_rfl)) (sum_at (v := (.slice (some ⟨g13, 0, none⟩) tag.length c14)) (n := tag.length) tag _ hf16 (hG.ext (((Ext.refl w).trans hx5).trans hx17))) ?_)
  rintro _ w23 ⟨rfl, hx24⟩
  refine ⟨_, rfl, ?_⟩; intro a25 hF26; clear hF22; have z27 := hx24.size
  refine wpl_op (i := 3) rfl (o_new (fun g => (.pointer (some ⟨g, 0, none⟩))) (byteVals (List.replicate 32 0)) 26 hF26 rfl rfl rfl rfl (by kernel_rfl) ?_)
  intro g28 w29 a34 hF35 z32 z33 b30 hx31; clear hF26
  refine wpl_op (i := 4) rfl (o_store (cells := (byteVals (bsum tag))) hF35 rfl rfl rfl rfl (hF35.get rfl) (hF35.get rfl) b30 ((by kernel_rfl : (Tryd.prog.info? 26).map (·.size) = some 32).trans (congrArg some (byteVals_len (bsum_len _)).symm)) ((byteVals_len (show List.length (List.replicate 32 0) = _ from List.length_replicate)).trans (byteVals_len (bsum_len _)).symm) (byteVals_one _) ?_)
  intro w36 b37 hg38; have z39 := hg38.size
  refine wpList_nil ?_
  refine hK10 _ _ ?_
  clear hK10
  refine wp_seq_k (fun K40 hK40 => ?_)
  refine wp_region_lit ?_
  refine wpl_op (i := 0) rfl (o_val (v := (.slice (some ⟨g28, 0, none⟩) 32 32)) hF35 rfl rfl rfl rfl (rn_arrAll Tryd.underlying26 (by kernel_rfl : (Tryd.prog.info? 5).map (·.size) = some 1) (hF35.get rfl)) ?_)
  intro a41 hF42; clear hF35
  refine wpl_op (i := 1) rfl (o_val (v := (.slice A b.length c)) hF42 rfl rfl rfl rfl (rn_move (hF42.get rfl)) ?_)
  intro a43 hF44; clear hF42
  refine wpl_op (i := 2) rfl (o_new (fun g => (.slice (some ⟨g, 0, none⟩) 2 2)) [(.slice (some ⟨g28, 0, none⟩) 32 32), (.slice A b.length c)] 22 hF44 rfl rfl rfl rfl (rn_buildSlice (parts2 (hF44.get rfl) (hF44.get rfl)) (by kernel_rfl)) ?_)
  intro g45 w46 a51 hF52 z49 z50 b47 hx48; clear hF44
  have b53 : Blk w46 g28 26 (byteVals (bsum tag)) := (b37.ext hx48)
  have d54 := (hc.pres (((((((Pres.refl w).ext hx5).ext hx17).ext hx24).ext hx31).grownN hg38 (fun h => by simp only [Clip] at h; omega)).ext hx48))
  have hn58 := Fl.blen (Fl.blk (S := fun b => b = g28) (k := 1) (n := 32) (c := 32) b53 (by rw [byteVals_len (bsum_len _), Nat.mul_one]) (byteVals_one _) (by omega) rfl)
  have hn59 := Fl.blen d54
  have hn60 : ([bsum tag, b]).flatten.length = 32 + b.length := by simp only [List.flatten_cons, List.flatten_nil, List.length_append, List.length_nil]; omega
  refine wpl_op (i := 3) rfl (o_call hF52 rfl rfl rfl rfl (rn_call (args1 (hF52.get rfl)) rfl (by kernel_rfl)) (concat_at [bsum tag, b] _ (RBss.two b47 (Fl.blk (S := fun b => b = g28) (k := 1) (n := 32) (c := 32) b53 (by rw [byteVals_len (bsum_len _), Nat.mul_one]) (byteVals_one _) (by omega) rfl) d54) hn60 (by omega)) ?_)
  rintro _ w61 ⟨A55, c56, rfl, hf57, hx62⟩
  rw [show ([bsum tag, b]).flatten = (bsum tag) ++ b from by simp] at hf57
  refine ⟨_, rfl, ?_⟩; intro a63 hF64; clear hF52; have z65 := hx62.size
  refine wpl_op (i := 4) rfl (o_call hF64 rfl rfl rfl rfl (rn_call (args1 (hF64.get rfl)) rfl (by kernel_rfl)) (sum_at (v := (.slice A55 (32 + b.length) c56)) (n := (32 + b.length)) ((bsum tag) ++ b) _ hf57 (hG.ext ((((((((Ext.refl w).trans hx5).trans hx17).trans hx24).trans hx31).grownN hg38 (by omega)).trans hx48).trans hx62))) ?_)
  rintro _ w66 ⟨rfl, hx67⟩
  refine ⟨_, rfl, ?_⟩; intro a68 hF69; clear hF64; have z70 := hx67.size
  have b74 : Blk w66 g2 26 (byteVals (List.replicate 32 0)) := (((((((b4.ext hx17).ext hx24).ext hx31).grownN hg38 (by omega)).ext hx48).ext hx62).ext hx67)
  refine wpl_op (i := 5) rfl (o_store (cells := (byteVals (bsum ((bsum tag) ++ b)))) hF69 rfl rfl rfl rfl (hF69.get rfl) (hF69.get rfl) b74 ((by kernel_rfl : (Tryd.prog.info? 26).map (·.size) = some 32).trans (congrArg some (byteVals_len (bsum_len _)).symm)) ((byteVals_len (show List.length (List.replicate 32 0) = _ from List.length_replicate)).trans (byteVals_len (bsum_len _)).symm) (byteVals_one _) ?_)
  intro w71 b72 hg73; have z75 := hg73.size
  refine wpList_nil ?_
  refine hK40 _ _ ?_
  clear hK40
  have hF76 := ((((hF69.nil.cons (hF69.get (t := 5) (v := (.pointer (some ⟨g28, 0, none⟩))) rfl)).cons (hF69.get (t := 4) (v := (.pointer (some ⟨g2, 0, none⟩))) rfl)).cons (hF69.get (t := 1) (v := (.slice A b.length c)) rfl)).cons (hF69.get (t := 0) (v := (strOf tag)) rfl))
  clear hF69
  refine wp_ret ?_
  refine retC hF76 rfl rfl b72 Tryd.underlying26 rfl ((by kernel_rfl : (Tryd.prog.info? 26).map (·.size) = some 32).trans (congrArg some (byteVals_len (bsum_len _)).symm)) ?_
  exact ⟨rfl, ((((((((((Ext.refl w).trans hx5).trans hx17).trans hx24).trans hx31).grownN hg38 (by omega)).trans hx48).trans hx62).trans hx67).grownN hg73 (by omega))⟩

theorem tagged_at (tag : List UInt8) {v : Value} {n : Nat} (b : List UInt8) (w : World) (hf : Fl S w 1 v n (byteVals b)) (hG : Glob w) (ht : tag.length ≤ 9223372036854775807) (hb : n ≤ 140737488355296) : Calls Tryd.prog 13 #[strOf tag, v] w (fun e w' => e = .returned (.agg (byteVals (tagged tag b)).toArray) ∧ Ext w w') := by
  have hm := hf.blen
  subst hm
  obtain ⟨A, c, rfl, _⟩ := hf.form
  exact tagged_any tag A c b w hf hG ht hb

set_option maxRecDepth 100000 in
set_option maxHeartbeats 1000000 in
theorem leaf_any (d : List UInt8) (w : World) (hd : d.length = 32) (hG : Glob w) :
    Calls Tryd.prog 28 #[.agg (byteVals d).toArray] w (fun e w' => e = .returned (.agg (byteVals (leafD d)).toArray) ∧ Ext w w') := by
  refine calls_enter (l := [(.agg (byteVals d).toArray)]) Tryd.func28 rfl rfl rfl (fun aA hF => ?_)
  refine wp_seq_k (fun K1 hK1 => ?_)
  refine wp_region_lit ?_
  refine wpl_op (i := 0) rfl (o_new (fun g => (.pointer (some ⟨g, 0, none⟩))) (byteVals d) 26 hF rfl rfl rfl rfl (rn_box (hF.get rfl) (box_arr _)) ?_)
  intro g2 w3 a8 hF9 z6 z7 b4 hx5; clear hF
  refine wpl_op (i := 1) rfl (o_new (fun g => (.pointer (some ⟨g, 0, none⟩))) (byteVals (List.replicate 32 0)) 26 hF9 rfl rfl rfl rfl (by kernel_rfl) ?_)
  intro g10 w11 a16 hF17 z14 z15 b12 hx13; clear hF9
  refine wpList_nil ?_
  refine hK1 _ _ ?_
  clear hK1
  refine wp_seq_k (fun K18 hK18 => ?_)
  refine wp_region_lit ?_
  refine wpl_op (i := 0) rfl (o_val (v := (.slice (some ⟨g2, 0, none⟩) 32 32)) hF17 rfl rfl rfl rfl (rn_arrAll Tryd.underlying26 (by kernel_rfl : (Tryd.prog.info? 5).map (·.size) = some 1) (hF17.get rfl)) ?_)
  intro a19 hF20; clear hF17
  have b21 : Blk w11 g2 26 (byteVals d) := (b4.ext hx13)
  refine wpl_op (i := 1) rfl (o_call hF20 rfl rfl rfl rfl (rn_call (args2 rfl (hF20.get rfl)) rfl (by kernel_rfl)) (tagged_at ([108, 101, 97, 102]) (v := (.slice (some ⟨g2, 0, none⟩) 32 32)) (n := 32) d _ (Fl.blk (S := fun b => b = g2) (k := 1) (n := 32) (c := 32) b21 (by rw [byteVals_len hd, Nat.mul_one]) (byteVals_one _) (by omega) rfl) (hG.ext (((Ext.refl w).trans hx5).trans hx13)) (by simp <;> omega) (by omega)) ?_)
  rintro _ w22 ⟨rfl, hx23⟩
  refine ⟨_, rfl, ?_⟩; intro a24 hF25; clear hF20; have z26 := hx23.size
  have b30 : Blk w22 g10 26 (byteVals (List.replicate 32 0)) := (b12.ext hx23)
  refine wpl_op (i := 2) rfl (o_store (cells := (byteVals (tagged ([108, 101, 97, 102]) d))) hF25 rfl rfl rfl rfl (hF25.get rfl) (hF25.get rfl) b30 ((by kernel_rfl : (Tryd.prog.info? 26).map (·.size) = some 32).trans (congrArg some (byteVals_len (tagged_len _ _)).symm)) ((byteVals_len (show List.length (List.replicate 32 0) = _ from List.length_replicate)).trans (byteVals_len (tagged_len _ _)).symm) (byteVals_one _) ?_)
  intro w27 b28 hg29; have z31 := hg29.size
  refine wpList_nil ?_
  refine hK18 _ _ ?_
  clear hK18
  refine wp_ret ?_
  refine retC hF25 rfl rfl b28 Tryd.underlying26 rfl ((by kernel_rfl : (Tryd.prog.info? 26).map (·.size) = some 32).trans (congrArg some (byteVals_len (tagged_len _ _)).symm)) ?_
  exact ⟨rfl, (((((Ext.refl w).trans hx5).trans hx13).trans hx23).grownN hg29 (by omega))⟩

set_option maxRecDepth 100000 in
set_option maxHeartbeats 1000000 in
theorem node_any (d d2 : List UInt8) (w : World) (hd : d.length = 32) (hd2 : d2.length = 32) (hG : Glob w) :
    Calls Tryd.prog 30 #[.agg (byteVals d).toArray, .agg (byteVals d2).toArray] w (fun e w' => e = .returned (.agg (byteVals (nodeD d d2)).toArray) ∧ Ext w w') := by
  refine calls_enter (l := [(.agg (byteVals d).toArray), (.agg (byteVals d2).toArray)]) Tryd.func30 rfl rfl rfl (fun aA hF => ?_)
  refine wp_seq_k (fun K1 hK1 => ?_)
  refine wp_region_lit ?_
  refine wpl_op (i := 0) rfl (o_new (fun g => (.pointer (some ⟨g, 0, none⟩))) (byteVals d) 26 hF rfl rfl rfl rfl (rn_box (hF.get rfl) (box_arr _)) ?_)
  intro g2 w3 a8 hF9 z6 z7 b4 hx5; clear hF
  refine wpl_op (i := 1) rfl (o_new (fun g => (.pointer (some ⟨g, 0, none⟩))) (byteVals d2) 26 hF9 rfl rfl rfl rfl (rn_box (hF9.get rfl) (box_arr _)) ?_)
  intro g10 w11 a16 hF17 z14 z15 b12 hx13; clear hF9
  refine wpl_op (i := 2) rfl (o_new (fun g => (.pointer (some ⟨g, 0, none⟩))) (byteVals (List.replicate 32 0)) 26 hF17 rfl rfl rfl rfl (by kernel_rfl) ?_)
  intro g18 w19 a24 hF25 z22 z23 b20 hx21; clear hF17
  refine wpList_nil ?_
  refine hK1 _ _ ?_
  clear hK1
  refine wp_seq_k (fun K26 hK26 => ?_)
  have hx28 : ∃ W, w19.drew = W ∧ Ext w19 W := ⟨_, rfl, (Ext.refl _).drew⟩
  obtain ⟨w27, e29, hx28⟩ := hx28
  have z30 := hx28.size
  refine any_start (fun W => Ext w27 W ∧ Blk W g2 26 (byteVals d) ∧ Blk W g10 26 (byteVals d2) ∧ Blk W g18 26 (byteVals (List.replicate 32 0))) (fun i => i == 5) 6 #[false, false, false, false, false, false] rfl rfl rfl ?_
  rw [e29]; clear e29
  refine any_pure (i := 0) (v := (.slice (some ⟨g2, 0, none⟩) 32 32)) hF25 (by decide +kernel) (by decide +kernel) rfl rfl rfl rfl (fun _ _ _ _ h => h) rfl (fun W => (rn_arrAll Tryd.underlying26 (by kernel_rfl : (Tryd.prog.info? 5).map (·.size) = some 1) (hF25.get rfl))) ?_
  intro a31 hF32; clear hF25
  refine any_pure (i := 1) (v := (.slice (some ⟨g10, 0, none⟩) 32 32)) hF32 (by decide +kernel) (by decide +kernel) rfl rfl rfl rfl (fun _ _ _ _ h => h) rfl (fun W => (rn_arrAll Tryd.underlying26 (by kernel_rfl : (Tryd.prog.info? 5).map (·.size) = some 1) (hF32.get rfl))) ?_
  intro a33 hF34; clear hF32
  refine any_one (i := 2) (by decide +kernel) rfl ?_
  refine o_new (fun g => (.slice (some ⟨g, 0, none⟩) 2 2)) [(.slice (some ⟨g2, 0, none⟩) 32 32), (.slice (some ⟨g10, 0, none⟩) 32 32)] 22 hF34 rfl rfl rfl rfl (rn_buildSlice (parts2 (hF34.get rfl) (hF34.get rfl)) (by kernel_rfl)) ?_
  intro g35 w36 a41 hF42 z39 z40 b37 hx38; clear hF34
  have b43 : Blk w36 g2 26 (byteVals d) := ((((b4.ext hx13).ext hx21).ext hx28).ext hx38)
  have b44 : Blk w36 g10 26 (byteVals d2) := (((b12.ext hx21).ext hx28).ext hx38)
  have b45 : Blk w36 g18 26 (byteVals (List.replicate 32 0)) := ((b20.ext hx28).ext hx38)
  refine ⟨fun _ _ => ⟨((Ext.refl w27).trans hx38), b43, b44, b45⟩, ?_⟩
  refine any_one (i := 3) (by decide +kernel) rfl ?_
  have hn49 := Fl.blen (Fl.blk (S := fun b => b = g2) (k := 1) (n := 32) (c := 32) b43 (by rw [byteVals_len hd, Nat.mul_one]) (byteVals_one _) (by omega) rfl)
  have hn50 := Fl.blen (Fl.blk (S := fun b => b = g10) (k := 1) (n := 32) (c := 32) b44 (by rw [byteVals_len hd2, Nat.mul_one]) (byteVals_one _) (by omega) rfl)
  have hn51 : ([d, d2]).flatten.length = 32 + 32 := by simp only [List.flatten_cons, List.flatten_nil, List.length_append, List.length_nil]; omega
  refine o_call hF42 rfl rfl rfl rfl (rn_call (args1 (hF42.get rfl)) rfl (by kernel_rfl)) (concat_at [d, d2] _ (RBss.two b37 (Fl.blk (S := fun b => b = g2) (k := 1) (n := 32) (c := 32) b43 (by rw [byteVals_len hd, Nat.mul_one]) (byteVals_one _) (by omega) rfl) (Fl.blk (S := fun b => b = g10) (k := 1) (n := 32) (c := 32) b44 (by rw [byteVals_len hd2, Nat.mul_one]) (byteVals_one _) (by omega) rfl)) hn51 (by omega)) ?_
  rintro _ w52 ⟨A46, c47, rfl, hf48, hx53⟩
  rw [show ([d, d2]).flatten = d ++ d2 from by simp] at hf48
  refine ⟨_, rfl, ?_⟩; intro a54 hF55; clear hF42; have z56 := hx53.size
  have b57 : Blk w52 g2 26 (byteVals d) := (b43.ext hx53)
  have b58 : Blk w52 g10 26 (byteVals d2) := (b44.ext hx53)
  have b59 : Blk w52 g18 26 (byteVals (List.replicate 32 0)) := (b45.ext hx53)
  refine ⟨fun _ _ => ⟨(((Ext.refl w27).trans hx38).trans hx53), b57, b58, b59⟩, ?_⟩
  refine any_one (i := 4) (by decide +kernel) rfl ?_
  refine o_call hF55 rfl rfl rfl rfl (rn_call (args2 rfl (hF55.get rfl)) rfl (by kernel_rfl)) (tagged_at ([110, 111, 100, 101]) (v := (.slice A46 (32 + 32) c47)) (n := (32 + 32)) (d ++ d2) _ hf48 (hG.ext (((((((Ext.refl w).trans hx5).trans hx13).trans hx21).trans hx28).trans hx38).trans hx53)) (by simp <;> omega) (by omega)) ?_
  rintro _ w60 ⟨rfl, hx61⟩
  refine ⟨_, rfl, ?_⟩; intro a62 hF63; clear hF55; have z64 := hx61.size
  have b65 : Blk w60 g2 26 (byteVals d) := (b57.ext hx61)
  have b66 : Blk w60 g10 26 (byteVals d2) := (b58.ext hx61)
  have b67 : Blk w60 g18 26 (byteVals (List.replicate 32 0)) := (b59.ext hx61)
  refine ⟨fun _ _ => ⟨((((Ext.refl w27).trans hx38).trans hx53).trans hx61), b65, b66, b67⟩, ?_⟩
  refine any_one (i := 5) (by decide +kernel) rfl ?_
  refine o_store (cells := (byteVals (tagged ([110, 111, 100, 101]) (d ++ d2)))) hF63 rfl rfl rfl rfl (hF63.get rfl) (hF63.get rfl) b67 ((by kernel_rfl : (Tryd.prog.info? 26).map (·.size) = some 32).trans (congrArg some (byteVals_len (tagged_len _ _)).symm)) ((byteVals_len (show List.length (List.replicate 32 0) = _ from List.length_replicate)).trans (byteVals_len (tagged_len _ _)).symm) (byteVals_one _) ?_
  intro w68 b69 hg70; have z71 := hg70.size
  refine ⟨fun h => absurd h (by decide), ?_⟩
  refine any_nil (by decide +kernel) ?_
  refine hK26 _ _ ?_
  clear hK26
  have hF72 := (((((hF63.nil.cons (hF63.get (t := 4) (v := (.pointer (some ⟨g18, 0, none⟩))) rfl)).cons (hF63.get (t := 3) (v := (.pointer (some ⟨g10, 0, none⟩))) rfl)).cons (hF63.get (t := 2) (v := (.pointer (some ⟨g2, 0, none⟩))) rfl)).cons (hF63.get (t := 1) (v := (.agg (byteVals d2).toArray)) rfl)).cons (hF63.get (t := 0) (v := (.agg (byteVals d).toArray)) rfl))
  clear hF63
  refine wp_ret ?_
  refine retC hF72 rfl rfl b69 Tryd.underlying26 rfl ((by kernel_rfl : (Tryd.prog.info? 26).map (·.size) = some 32).trans (congrArg some (byteVals_len (tagged_len _ _)).symm)) ?_
  exact ⟨rfl, (((((((((Ext.refl w).trans hx5).trans hx13).trans hx21).trans hx28).trans hx38).trans hx53).trans hx61).grownN hg70 (by omega))⟩

end Go.Proofs.YtgodliookpgliaaDoor
