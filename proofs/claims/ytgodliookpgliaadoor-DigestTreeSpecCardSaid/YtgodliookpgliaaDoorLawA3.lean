/- Contracts of the laws' sane, digestsOf, steps. -/
import Derived.Test.YtgodliookpgliaaDoorProg
import Derived.Test.YtgodliookpgliaaDoorDigK
import Derived.Test.YtgodliookpgliaaDoorSeq3
import Derived.KernelRfl
namespace Go.Proofs.YtgodliookpgliaaDoor
open Go.RowKit

variable {S S' : Nat → Prop}

theorem abc4 : (bsum [97, 98, 99]).getD 0 0 = 80 ∧ (bsum [97, 98, 99]).getD 1 0 = 140 ∧ (bsum [97, 98, 99]).getD 2 0 = 94 ∧ (bsum [97, 98, 99]).getD 3 0 = 140 ∧ (bsum []).getD 0 0 = 105 ∧ (bsum []).getD 1 0 = 33 ∧ (bsum []).getD 2 0 = 122 ∧ (bsum []).getD 3 0 = 48 := by decide +kernel
def d1 : List UInt8 := [1, 0, 0, 0, 0, 0, 0, 0, 0, 0, 0, 0, 0, 0, 0, 0, 0, 0, 0, 0, 0, 0, 0, 0, 0, 0, 0, 0, 0, 0, 0, 0]
theorem climb_sane (d : List UInt8) : (climbF d 0 2 []).2 = 1 := by
  rw [climbF, if_pos]
  refine .inr ?_
  rw [show (2 : Int).toNat = 2 from rfl, show (0 : Int).toNat = 0 from rfl, dirs_first (by omega) (half_pos 2)]
  simp
theorem climb_sane1 (d : List UInt8) : climbF d 0 1 [] = (leafD d, 0) := by
  have h : dirs (0 : Int).toNat (1 : Int).toNat = [] := dirs_one (by decide)
  rw [climbF, if_neg (by rw [h]; simp), climb_one' (by decide)]
theorem tree_sane (d : List UInt8) : treeD [d] = leafD d := tree_one' (l := [d]) rfl
theorem path_sane : (pathF [] 0).2 = 1 := by rw [pathF, if_pos (by simp)]
def dOf (x : UInt8) (i : Nat) : List UInt8 := [x % 4, UInt8.ofNat (i / 8), 0, 0, 0, 0, 0, 0, 0, 0, 0, 0, 0, 0, 0, 0, 0, 0, 0, 0, 0, 0, 0, 0, 0, 0, 0, 0, 0, 0, 0, 0]
def digsTo (s : List UInt8) (k : Nat) : List (List UInt8) := (List.range k).map fun i => dOf (s.getD i 0) i
def digsOf (s : List UInt8) : List (List UInt8) := digsTo s (min s.length 24)
theorem digsTo_32 (s : List UInt8) (k : Nat) : All32 (digsTo s k) := fun x hx => by
  simp only [digsTo, List.mem_map] at hx
  obtain ⟨i, _, rfl⟩ := hx
  rfl
theorem digsOf_32 (s : List UInt8) : All32 (digsOf s) := digsTo_32 _ _
theorem digsOf_len (s : List UInt8) : (digsOf s).length = min s.length 24 := by simp [digsOf, digsTo]
theorem digsTo_step {s : List UInt8} {k : Nat} {l : List (List UInt8)} (h : l = digsTo s k) : l ++ [[(s.getD k 0) % 4, UInt8.ofNat (k / 8), 0, 0, 0, 0, 0, 0, 0, 0, 0, 0, 0, 0, 0, 0, 0, 0, 0, 0, 0, 0, 0, 0, 0, 0, 0, 0, 0, 0, 0, 0]] = digsTo s (k + 1) := by
  rw [h, digsTo, digsTo, List.range_succ, List.map_append]; rfl

set_option maxRecDepth 100000 in
set_option maxHeartbeats 1000000 in
theorem sane_any (w : World) (hG : Glob w) :
    Calls Tryd.prog 10 #[] w (fun e w' => e = .returned (.bool true) ∧ Ext w w') := by
  refine calls_enter (l := []) Tryd.func10 rfl rfl rfl (fun aA hF => ?_)
  refine wp_seq_k (fun K1 hK1 => ?_)
  refine wp_region_lit ?_
  refine wpl_op (i := 0) rfl (o_val (v := (.bool false)) hF rfl rfl rfl rfl (rn_assign rfl) ?_)
  intro a2 hF3; clear hF
  refine wpList_nil ?_
  refine hK1 _ _ ?_
  clear hK1
  refine wp_seq_k (fun K4 hK4 => ?_)
  refine wp_region_lit ?_
  refine wpl_op (i := 0) rfl (o_new (fun g => (.slice (some ⟨g, 0, none⟩) 3 3)) [(.int .u8 97), (.int .u8 98), (.int .u8 99)] 5 hF3 rfl rfl rfl rfl (rn_buildSlice (parts3 rfl rfl rfl) (by kernel_rfl)) ?_)
  intro g5 w6 a11 hF12 z9 z10 b7 hx8; clear hF3
  refine wpl_op (i := 1) rfl (o_mark (l := [(97 : UInt8), (98 : UInt8), (99 : UInt8)]) hF12 rfl rfl rfl rfl rfl (hF12.get rfl) Tryd.underlying22 Tryd.underlying5 b7 rfl (by omega) (by omega) ?_)
  intro w13 a16 hF17 hf14 hg15; clear hF12; have z18 := hg15.size
  refine wpl_op (i := 2) rfl (o_call hF17 rfl rfl rfl rfl (rn_call (args1 (hF17.get rfl)) rfl (by kernel_rfl)) (sum_at (v := (.slice (some ⟨g5, 0, none⟩) 3 3)) (n := 3) ([(97 : UInt8), (98 : UInt8), (99 : UInt8)]) _ hf14 (hG.ext (((Ext.refl w).trans hx8).grownN hg15 (by omega)))) ?_)
  rintro _ w19 ⟨rfl, hx20⟩
  refine ⟨_, rfl, ?_⟩; intro a21 hF22; clear hF17; have z23 := hx20.size
  refine wpl_op (i := 3) rfl (o_call hF22 rfl rfl rfl rfl (rn_call (args1 rfl) rfl (by kernel_rfl)) (sum_at (v := (.slice none 0 0)) (n := 0) ([]) _ (show Fl (fun _ => False) w19 1 (.slice none 0 0) 0 (byteVals []) from Fl.nil _) (hG.ext ((((Ext.refl w).trans hx8).grownN hg15 (by omega)).trans hx20))) ?_)
  rintro _ w24 ⟨rfl, hx25⟩
  refine ⟨_, rfl, ?_⟩; intro a26 hF27; clear hF22; have z28 := hx25.size
  refine wpl_op (i := 4) rfl (o_new (fun g => (.pointer (some ⟨g, 0, none⟩))) (byteVals (List.replicate 32 0)) 26 hF27 rfl rfl rfl rfl (by kernel_rfl) ?_)
  intro g29 w30 a35 hF36 z33 z34 b31 hx32; clear hF27
  refine wpl_op (i := 5) rfl (o_new (fun g => (.pointer (some ⟨g, 0, none⟩))) (byteVals (List.replicate 32 0)) 26 hF36 rfl rfl rfl rfl (by kernel_rfl) ?_)
  intro g37 w38 a43 hF44 z41 z42 b39 hx40; clear hF36
  have b48 : Blk w38 g29 26 (byteVals (List.replicate 32 0)) := (b31.ext hx40)
  refine wpl_op (i := 6) rfl (o_store (cells := (byteVals (bsum ([(97 : UInt8), (98 : UInt8), (99 : UInt8)])))) hF44 rfl rfl rfl rfl (hF44.get rfl) (hF44.get rfl) b48 ((by kernel_rfl : (Tryd.prog.info? 26).map (·.size) = some 32).trans (congrArg some (byteVals_len (bsum_len _)).symm)) ((byteVals_len (show List.length (List.replicate 32 0) = _ from List.length_replicate)).trans (byteVals_len (bsum_len _)).symm) (byteVals_one _) ?_)
  intro w45 b46 hg47; have z49 := hg47.size
  have b53 : Blk w45 g37 26 (byteVals (List.replicate 32 0)) := (b39.grownN hg47 (by omega))
  refine wpl_op (i := 7) rfl (o_store (cells := (byteVals (bsum ([])))) hF44 rfl rfl rfl rfl (hF44.get rfl) (hF44.get rfl) b53 ((by kernel_rfl : (Tryd.prog.info? 26).map (·.size) = some 32).trans (congrArg some (byteVals_len (bsum_len _)).symm)) ((byteVals_len (show List.length (List.replicate 32 0) = _ from List.length_replicate)).trans (byteVals_len (bsum_len _)).symm) (byteVals_one _) ?_)
  intro w50 b51 hg52; have z54 := hg52.size
  refine wpList_nil ?_
  refine hK4 _ _ ?_
  clear hK4
  have hF55 := (((hF44.nil.cons (hF44.get (t := 2) (v := (.pointer (some ⟨g37, 0, none⟩))) rfl)).cons (hF44.get (t := 1) (v := (.pointer (some ⟨g29, 0, none⟩))) rfl)).cons (hF44.get (t := 0) (v := (.bool false)) rfl))
  clear hF44
  refine wp_seq_k (fun K56 hK56 => ?_)
  refine wp_region_lit ?_
  refine wpl_op (i := 0) rfl (o_call hF55 rfl rfl rfl rfl (rn_call (args2 rfl rfl) rfl (by kernel_rfl)) (path_at ([]) 0 _ (v := (.slice none 0 0)) (n := 0) All32.nil (show Fl (fun _ => False) w50 32 (.slice none 0 0) 0 (digVals []) from Fl.nil _) (hG.ext (((((((((Ext.refl w).trans hx8).grownN hg15 (by omega)).trans hx20).trans hx25).trans hx32).trans hx40).grownN hg47 (by omega)).grownN hg52 (by omega))) (by omega)) ?_)
  rintro _ w64 ⟨A57, n58, c59, rfl, hf60, h3261, hx65⟩
  have z62 := (Fl.cel hf60).2.1
  have z63 := Fl.dlen hf60 h3261
  refine ⟨_, rfl, ?_⟩; intro a66 hF67; clear hF55; have z68 := hx65.size
  have hf69 : Fl (Clip (fun b => w50.heap.size ≤ b) w64) w64 32 (.slice A57 n58 c59) n58 (digVals ((pathF ([]) 0).1)) := hf60.clip
  refine wpl_op (i := 1) rfl (o_val (v := (.tuple #[(.slice A57 n58 c59), (.int .i64 ((pathF ([]) 0).2))])) hF67 rfl rfl rfl rfl (rn_move (hF67.get rfl)) ?_)
  intro a70 hF71; clear hF67
  refine wpl_op (i := 2) rfl (o_val (v := (.slice A57 n58 c59)) hF71 rfl rfl rfl rfl (rn_extract (hF71.get rfl) rfl) ?_)
  intro a72 hF73; clear hF71
  refine wpl_op (i := 3) rfl (o_val (v := (.int .i64 ((pathF ([]) 0).2))) hF73 rfl rfl rfl rfl (rn_extract (hF73.get rfl) rfl) ?_)
  intro a74 hF75; clear hF73
  refine wpl_op (i := 4) rfl (o_val (v := (.slice A57 n58 c59)) hF75 rfl rfl rfl rfl (rn_assign (hF75.get rfl)) ?_)
  intro a76 hF77; clear hF75
  refine wpl_op (i := 5) rfl (o_val (v := (.int .i64 ((pathF ([]) 0).2))) hF77 rfl rfl rfl rfl (rn_assign (hF77.get rfl)) ?_)
  intro a78 hF79; clear hF77
  refine wpList_nil ?_
  refine hK56 _ _ ?_
  clear hK56
  have hF80 := ((((hF79.nil.cons (hF79.get (t := 4) (v := (.int .i64 ((pathF ([]) 0).2))) rfl)).cons (hF79.get (t := 2) (v := (.pointer (some ⟨g37, 0, none⟩))) rfl)).cons (hF79.get (t := 1) (v := (.pointer (some ⟨g29, 0, none⟩))) rfl)).cons (hF79.get (t := 0) (v := (.bool false)) rfl))
  clear hF79
  refine wp_seq_k (fun K81 hK81 => ?_)
  refine wp_region_lit ?_
  refine wpl_op (i := 0) rfl (o_val (v := (.agg (byteVals (List.replicate 32 0)).toArray)) hF80 rfl rfl rfl rfl (rn_build parts0 (by kernel_rfl)) ?_)
  intro a82 hF83; clear hF80
  refine wpl_op (i := 1) rfl (o_call hF83 rfl rfl rfl rfl (rn_call (args4 (hF83.get rfl) rfl rfl rfl) rfl (by kernel_rfl)) (climb_at (List.replicate 32 0) 0 2 ([]) _ (v := (.slice none 0 0)) (m := 0) (show List.length (List.replicate 32 0) = _ from List.length_replicate) All32.nil (show Fl (fun _ => False) w64 32 (.slice none 0 0) 0 (digVals []) from Fl.nil _) (hG.ext ((((((((((Ext.refl w).trans hx8).grownN hg15 (by omega)).trans hx20).trans hx25).trans hx32).trans hx40).grownN hg47 (by omega)).grownN hg52 (by omega)).trans hx65))) ?_)
  rintro _ w84 ⟨rfl, hx85⟩
  refine ⟨_, rfl, ?_⟩; intro a86 hF87; clear hF83; have z88 := hx85.size
  refine wpl_op (i := 2) rfl (o_val (v := (.tuple #[(.agg (byteVals ((climbF (List.replicate 32 0) 0 2 ([])).1)).toArray), (.int .i64 ((climbF (List.replicate 32 0) 0 2 ([])).2))])) hF87 rfl rfl rfl rfl (rn_move (hF87.get rfl)) ?_)
  intro a89 hF90; clear hF87
  refine wpl_op (i := 3) rfl (o_val (v := (.agg (byteVals ((climbF (List.replicate 32 0) 0 2 ([])).1)).toArray)) hF90 rfl rfl rfl rfl (rn_extract (hF90.get rfl) rfl) ?_)
  intro a91 hF92; clear hF90
  refine wpl_op (i := 4) rfl (o_val (v := (.int .i64 ((climbF (List.replicate 32 0) 0 2 ([])).2))) hF92 rfl rfl rfl rfl (rn_extract (hF92.get rfl) rfl) ?_)
  intro a93 hF94; clear hF92
  refine wpl_op (i := 5) rfl (o_new (fun g => (.pointer (some ⟨g, 0, none⟩))) (byteVals (List.replicate 32 0)) 26 hF94 rfl rfl rfl rfl (by kernel_rfl) ?_)
  intro g95 w96 a101 hF102 z99 z100 b97 hx98; clear hF94
  refine wpl_op (i := 6) rfl (o_store (cells := (byteVals ((climbF (List.replicate 32 0) 0 2 ([])).1))) hF102 rfl rfl rfl rfl (hF102.get rfl) (hF102.get rfl) b97 ((by kernel_rfl : (Tryd.prog.info? 26).map (·.size) = some 32).trans (congrArg some (byteVals_len (climbF_len _ _ _ _)).symm)) ((byteVals_len (show List.length (List.replicate 32 0) = _ from List.length_replicate)).trans (byteVals_len (climbF_len _ _ _ _)).symm) (byteVals_one _) ?_)
  intro w103 b104 hg105; have z106 := hg105.size
  refine wpl_op (i := 7) rfl (o_val (v := (.int .i64 ((climbF (List.replicate 32 0) 0 2 ([])).2))) hF102 rfl rfl rfl rfl (rn_assign (hF102.get rfl)) ?_)
  intro a107 hF108; clear hF102
  refine wpList_nil ?_
  refine hK81 _ _ ?_
  clear hK81
  have hF109 := (((((hF108.nil.cons (hF108.get (t := 6) (v := (.int .i64 ((climbF (List.replicate 32 0) 0 2 ([])).2))) rfl)).cons (hF108.get (t := 4) (v := (.int .i64 ((pathF ([]) 0).2))) rfl)).cons (hF108.get (t := 2) (v := (.pointer (some ⟨g37, 0, none⟩))) rfl)).cons (hF108.get (t := 1) (v := (.pointer (some ⟨g29, 0, none⟩))) rfl)).cons (hF108.get (t := 0) (v := (.bool false)) rfl))
  clear hF108
  refine wp_seq_k (fun K110 hK110 => ?_)
  refine wp_region_lit ?_
  refine wpl_op (i := 0) rfl (o_val (v := (.agg (byteVals ([(1 : UInt8), 0, 0, 0, 0, 0, 0, 0, 0, 0, 0, 0, 0, 0, 0, 0, 0, 0, 0, 0, 0, 0, 0, 0, 0, 0, 0, 0, 0, 0, 0, 0])).toArray)) hF109 rfl rfl rfl rfl (rn_build (parts1 rfl) (by kernel_rfl)) ?_)
  intro a111 hF112; clear hF109
  refine wpl_op (i := 1) rfl (o_call hF112 rfl rfl rfl rfl (rn_call (args4 (hF112.get rfl) rfl rfl rfl) rfl (by kernel_rfl)) (climb_at ([(1 : UInt8), 0, 0, 0, 0, 0, 0, 0, 0, 0, 0, 0, 0, 0, 0, 0, 0, 0, 0, 0, 0, 0, 0, 0, 0, 0, 0, 0, 0, 0, 0, 0]) 0 1 ([]) _ (v := (.slice none 0 0)) (m := 0) (show List.length [(1 : UInt8), 0, 0, 0, 0, 0, 0, 0, 0, 0, 0, 0, 0, 0, 0, 0, 0, 0, 0, 0, 0, 0, 0, 0, 0, 0, 0, 0, 0, 0, 0, 0] = 32 from rfl) All32.nil (show Fl (fun _ => False) w103 32 (.slice none 0 0) 0 (digVals []) from Fl.nil _) (hG.ext (((((((((((((Ext.refl w).trans hx8).grownN hg15 (by omega)).trans hx20).trans hx25).trans hx32).trans hx40).grownN hg47 (by omega)).grownN hg52 (by omega)).trans hx65).trans hx85).trans hx98).grownN hg105 (by omega)))) ?_)
  rintro _ w113 ⟨rfl, hx114⟩
  refine ⟨_, rfl, ?_⟩; intro a115 hF116; clear hF112; have z117 := hx114.size
  refine wpl_op (i := 2) rfl (o_val (v := (.tuple #[(.agg (byteVals ((climbF ([(1 : UInt8), 0, 0, 0, 0, 0, 0, 0, 0, 0, 0, 0, 0, 0, 0, 0, 0, 0, 0, 0, 0, 0, 0, 0, 0, 0, 0, 0, 0, 0, 0, 0]) 0 1 ([])).1)).toArray), (.int .i64 ((climbF ([(1 : UInt8), 0, 0, 0, 0, 0, 0, 0, 0, 0, 0, 0, 0, 0, 0, 0, 0, 0, 0, 0, 0, 0, 0, 0, 0, 0, 0, 0, 0, 0, 0, 0]) 0 1 ([])).2))])) hF116 rfl rfl rfl rfl (rn_move (hF116.get rfl)) ?_)
  intro a118 hF119; clear hF116
  refine wpl_op (i := 3) rfl (o_val (v := (.agg (byteVals ((climbF ([(1 : UInt8), 0, 0, 0, 0, 0, 0, 0, 0, 0, 0, 0, 0, 0, 0, 0, 0, 0, 0, 0, 0, 0, 0, 0, 0, 0, 0, 0, 0, 0, 0, 0]) 0 1 ([])).1)).toArray)) hF119 rfl rfl rfl rfl (rn_extract (hF119.get rfl) rfl) ?_)
  intro a120 hF121; clear hF119
  refine wpl_op (i := 4) rfl (o_val (v := (.int .i64 ((climbF ([(1 : UInt8), 0, 0, 0, 0, 0, 0, 0, 0, 0, 0, 0, 0, 0, 0, 0, 0, 0, 0, 0, 0, 0, 0, 0, 0, 0, 0, 0, 0, 0, 0, 0]) 0 1 ([])).2))) hF121 rfl rfl rfl rfl (rn_extract (hF121.get rfl) rfl) ?_)
  intro a122 hF123; clear hF121
  refine wpl_op (i := 5) rfl (o_new (fun g => (.pointer (some ⟨g, 0, none⟩))) (byteVals (List.replicate 32 0)) 26 hF123 rfl rfl rfl rfl (by kernel_rfl) ?_)
  intro g124 w125 a130 hF131 z128 z129 b126 hx127; clear hF123
  refine wpl_op (i := 6) rfl (o_store (cells := (byteVals ((climbF ([(1 : UInt8), 0, 0, 0, 0, 0, 0, 0, 0, 0, 0, 0, 0, 0, 0, 0, 0, 0, 0, 0, 0, 0, 0, 0, 0, 0, 0, 0, 0, 0, 0, 0]) 0 1 ([])).1))) hF131 rfl rfl rfl rfl (hF131.get rfl) (hF131.get rfl) b126 ((by kernel_rfl : (Tryd.prog.info? 26).map (·.size) = some 32).trans (congrArg some (byteVals_len (climbF_len _ _ _ _)).symm)) ((byteVals_len (show List.length (List.replicate 32 0) = _ from List.length_replicate)).trans (byteVals_len (climbF_len _ _ _ _)).symm) (byteVals_one _) ?_)
  intro w132 b133 hg134; have z135 := hg134.size
  refine wpl_op (i := 7) rfl (o_val (v := (.int .i64 ((climbF ([(1 : UInt8), 0, 0, 0, 0, 0, 0, 0, 0, 0, 0, 0, 0, 0, 0, 0, 0, 0, 0, 0, 0, 0, 0, 0, 0, 0, 0, 0, 0, 0, 0, 0]) 0 1 ([])).2))) hF131 rfl rfl rfl rfl (rn_assign (hF131.get rfl)) ?_)
  intro a136 hF137; clear hF131
  refine wpList_nil ?_
  refine hK110 _ _ ?_
  clear hK110
  have hF138 := (((((((hF137.nil.cons (hF137.get (t := 8) (v := (.int .i64 ((climbF ([(1 : UInt8), 0, 0, 0, 0, 0, 0, 0, 0, 0, 0, 0, 0, 0, 0, 0, 0, 0, 0, 0, 0, 0, 0, 0, 0, 0, 0, 0, 0, 0, 0, 0]) 0 1 ([])).2))) rfl)).cons (hF137.get (t := 7) (v := (.pointer (some ⟨g124, 0, none⟩))) rfl)).cons (hF137.get (t := 6) (v := (.int .i64 ((climbF (List.replicate 32 0) 0 2 ([])).2))) rfl)).cons (hF137.get (t := 4) (v := (.int .i64 ((pathF ([]) 0).2))) rfl)).cons (hF137.get (t := 2) (v := (.pointer (some ⟨g37, 0, none⟩))) rfl)).cons (hF137.get (t := 1) (v := (.pointer (some ⟨g29, 0, none⟩))) rfl)).cons (hF137.get (t := 0) (v := (.bool false)) rfl))
  clear hF137
  refine wp_seq_k (fun K139 hK139 => ?_)
  refine wp_region_lit ?_
  refine wpl_op (i := 0) rfl (o_val (v := (.pointer (some ⟨g29, 0 + 0, none⟩))) hF138 rfl rfl rfl rfl (rn_indexArr Tryd.underlying26 (by kernel_rfl : (Tryd.prog.info? 5).map (·.size) = some 1) (hF138.get rfl) rfl (by omega : (0 : Int) ≤ 0) (by omega : (0 : Int) < ((32 : Nat) : Int))) ?_)
  intro a140 hF141; clear hF138
  have b142 : Blk w132 g29 26 (byteVals (bsum ([(97 : UInt8), (98 : UInt8), (99 : UInt8)]))) := ((((((((b46.grownN hg52 (by omega)).ext hx65).ext hx85).ext hx98).grownN hg105 (by omega)).ext hx114).ext hx127).grownN hg134 (by omega))
  refine wpl_op (i := 1) rfl (o_val (v := (.int .u8 (((bsum ([(97 : UInt8), (98 : UInt8), (99 : UInt8)])).getD 0 0).toNat : Nat))) hF141 rfl rfl rfl rfl (rn_load (isAgg_no Tryd.underlying5 rfl) (hF141.get rfl) (blk_byte b142 (by omega) (by have := (show List.length (bsum ([(97 : UInt8), (98 : UInt8), (99 : UInt8)])) = _ from (bsum_len _)); omega))) ?_)
  intro a143 hF144; clear hF141
  refine wpl_op (i := 2) rfl (o_val (v := (.bool (decide (((((bsum ([(97 : UInt8), (98 : UInt8), (99 : UInt8)])).getD 0 0).toNat : Nat) : Int) = (80 : Int))))) hF144 rfl rfl rfl rfl (rn_eql (hF144.get rfl) rfl) ?_)
  intro a145 hF146; clear hF144
  refine wpl_op (i := 3) rfl (o_val (v := (.bool (decide (((((bsum ([(97 : UInt8), (98 : UInt8), (99 : UInt8)])).getD 0 0).toNat : Nat) : Int) = (80 : Int))))) hF146 rfl rfl rfl rfl (rn_move (hF146.get rfl)) ?_)
  intro a147 hF148; clear hF146
  refine wpl_op (i := 4) rfl (o_val (v := (.pointer (some ⟨g29, 0 + 1, none⟩))) hF148 rfl (wanted_guard rfl rfl rfl hF148 rfl ((decide_eq_true (by have h := abc4; simp only [h]; rfl)) : decide (((((bsum ([(97 : UInt8), (98 : UInt8), (99 : UInt8)])).getD 0 0).toNat : Nat) : Int) = (80 : Int)) = true) rfl) rfl rfl (rn_indexArr Tryd.underlying26 (by kernel_rfl : (Tryd.prog.info? 5).map (·.size) = some 1) (hF148.get rfl) rfl (by omega : (0 : Int) ≤ 1) (by omega : (1 : Int) < ((32 : Nat) : Int))) ?_)
  intro a150 hF151; clear hF148
  refine wpl_op (i := 5) rfl (o_val (v := (.int .u8 (((bsum ([(97 : UInt8), (98 : UInt8), (99 : UInt8)])).getD 1 0).toNat : Nat))) hF151 rfl (wanted_guard rfl rfl rfl hF151 rfl ((decide_eq_true (by have h := abc4; simp only [h]; rfl)) : decide (((((bsum ([(97 : UInt8), (98 : UInt8), (99 : UInt8)])).getD 0 0).toNat : Nat) : Int) = (80 : Int)) = true) rfl) rfl rfl (rn_load (isAgg_no Tryd.underlying5 rfl) (hF151.get rfl) (blk_byte b142 (by omega) (by have := (show List.length (bsum ([(97 : UInt8), (98 : UInt8), (99 : UInt8)])) = _ from (bsum_len _)); omega))) ?_)
  intro a152 hF153; clear hF151
  refine wpl_op (i := 6) rfl (o_val (v := (.bool (decide (((((bsum ([(97 : UInt8), (98 : UInt8), (99 : UInt8)])).getD 1 0).toNat : Nat) : Int) = (140 : Int))))) hF153 rfl (wanted_guard rfl rfl rfl hF153 rfl ((decide_eq_true (by have h := abc4; simp only [h]; rfl)) : decide (((((bsum ([(97 : UInt8), (98 : UInt8), (99 : UInt8)])).getD 0 0).toNat : Nat) : Int) = (80 : Int)) = true) rfl) rfl rfl (rn_eql (hF153.get rfl) rfl) ?_)
  intro a154 hF155; clear hF153
  refine wpl_op (i := 7) rfl (o_val (v := (.bool (decide (((((bsum ([(97 : UInt8), (98 : UInt8), (99 : UInt8)])).getD 1 0).toNat : Nat) : Int) = (140 : Int))))) hF155 rfl rfl rfl rfl (rn_pickT (c_true hF155 rfl ((decide_eq_true (by have h := abc4; simp only [h]; rfl)) : decide (((((bsum ([(97 : UInt8), (98 : UInt8), (99 : UInt8)])).getD 0 0).toNat : Nat) : Int) = (80 : Int)) = true)) (hF155.get rfl)) ?_)
  intro a156 hF157; clear hF155
  refine wpl_op (i := 8) rfl (o_val (v := (.bool (decide (((((bsum ([(97 : UInt8), (98 : UInt8), (99 : UInt8)])).getD 1 0).toNat : Nat) : Int) = (140 : Int))))) hF157 rfl rfl rfl rfl (rn_move (hF157.get rfl)) ?_)
  intro a158 hF159; clear hF157
  refine wpl_op (i := 9) rfl (o_val (v := (.pointer (some ⟨g29, 0 + 2, none⟩))) hF159 rfl (wanted_guard rfl rfl rfl hF159 rfl ((decide_eq_true (by have h := abc4; simp only [h]; rfl)) : decide (((((bsum ([(97 : UInt8), (98 : UInt8), (99 : UInt8)])).getD 1 0).toNat : Nat) : Int) = (140 : Int)) = true) rfl) rfl rfl (rn_indexArr Tryd.underlying26 (by kernel_rfl : (Tryd.prog.info? 5).map (·.size) = some 1) (hF159.get rfl) rfl (by omega : (0 : Int) ≤ 2) (by omega : (2 : Int) < ((32 : Nat) : Int))) ?_)
  intro a161 hF162; clear hF159
  refine wpl_op (i := 10) rfl (o_val (v := (.int .u8 (((bsum ([(97 : UInt8), (98 : UInt8), (99 : UInt8)])).getD 2 0).toNat : Nat))) hF162 rfl (wanted_guard rfl rfl rfl hF162 rfl ((decide_eq_true (by have h := abc4; simp only [h]; rfl)) : decide (((((bsum ([(97 : UInt8), (98 : UInt8), (99 : UInt8)])).getD 1 0).toNat : Nat) : Int) = (140 : Int)) = true) rfl) rfl rfl (rn_load (isAgg_no Tryd.underlying5 rfl) (hF162.get rfl) (blk_byte b142 (by omega) (by have := (show List.length (bsum ([(97 : UInt8), (98 : UInt8), (99 : UInt8)])) = _ from (bsum_len _)); omega))) ?_)
  intro a163 hF164; clear hF162
  refine wpl_op (i := 11) rfl (o_val (v := (.bool (decide (((((bsum ([(97 : UInt8), (98 : UInt8), (99 : UInt8)])).getD 2 0).toNat : Nat) : Int) = (94 : Int))))) hF164 rfl (wanted_guard rfl rfl rfl hF164 rfl ((decide_eq_true (by have h := abc4; simp only [h]; rfl)) : decide (((((bsum ([(97 : UInt8), (98 : UInt8), (99 : UInt8)])).getD 1 0).toNat : Nat) : Int) = (140 : Int)) = true) rfl) rfl rfl (rn_eql (hF164.get rfl) rfl) ?_)
  intro a165 hF166; clear hF164
  refine wpl_op (i := 12) rfl (o_val (v := (.bool (decide (((((bsum ([(97 : UInt8), (98 : UInt8), (99 : UInt8)])).getD 2 0).toNat : Nat) : Int) = (94 : Int))))) hF166 rfl rfl rfl rfl (rn_pickT (c_true hF166 rfl ((decide_eq_true (by have h := abc4; simp only [h]; rfl)) : decide (((((bsum ([(97 : UInt8), (98 : UInt8), (99 : UInt8)])).getD 1 0).toNat : Nat) : Int) = (140 : Int)) = true)) (hF166.get rfl)) ?_)
  intro a167 hF168; clear hF166
  refine wpl_op (i := 13) rfl (o_val (v := (.bool (decide (((((bsum ([(97 : UInt8), (98 : UInt8), (99 : UInt8)])).getD 2 0).toNat : Nat) : Int) = (94 : Int))))) hF168 rfl rfl rfl rfl (rn_move (hF168.get rfl)) ?_)
  intro a169 hF170; clear hF168
  refine wpl_op (i := 14) rfl (o_val (v := (.pointer (some ⟨g29, 0 + 3, none⟩))) hF170 rfl (wanted_guard rfl rfl rfl hF170 rfl ((decide_eq_true (by have h := abc4; simp only [h]; rfl)) : decide (((((bsum ([(97 : UInt8), (98 : UInt8), (99 : UInt8)])).getD 2 0).toNat : Nat) : Int) = (94 : Int)) = true) rfl) rfl rfl (rn_indexArr Tryd.underlying26 (by kernel_rfl : (Tryd.prog.info? 5).map (·.size) = some 1) (hF170.get rfl) rfl (by omega : (0 : Int) ≤ 3) (by omega : (3 : Int) < ((32 : Nat) : Int))) ?_)
  intro a172 hF173; clear hF170
  refine wpl_op (i := 15) rfl (o_val (v := (.int .u8 (((bsum ([(97 : UInt8), (98 : UInt8), (99 : UInt8)])).getD 3 0).toNat : Nat))) hF173 rfl (wanted_guard rfl rfl rfl hF173 rfl ((decide_eq_true (by have h := abc4; simp only [h]; rfl)) : decide (((((bsum ([(97 : UInt8), (98 : UInt8), (99 : UInt8)])).getD 2 0).toNat : Nat) : Int) = (94 : Int)) = true) rfl) rfl rfl (rn_load (isAgg_no Tryd.underlying5 rfl) (hF173.get rfl) (blk_byte b142 (by omega) (by have := (show List.length (bsum ([(97 : UInt8), (98 : UInt8), (99 : UInt8)])) = _ from (bsum_len _)); omega))) ?_)
  intro a174 hF175; clear hF173
  refine wpl_op (i := 16) rfl (o_val (v := (.bool (decide (((((bsum ([(97 : UInt8), (98 : UInt8), (99 : UInt8)])).getD 3 0).toNat : Nat) : Int) = (140 : Int))))) hF175 rfl (wanted_guard rfl rfl rfl hF175 rfl ((decide_eq_true (by have h := abc4; simp only [h]; rfl)) : decide (((((bsum ([(97 : UInt8), (98 : UInt8), (99 : UInt8)])).getD 2 0).toNat : Nat) : Int) = (94 : Int)) = true) rfl) rfl rfl (rn_eql (hF175.get rfl) rfl) ?_)
  intro a176 hF177; clear hF175
  refine wpl_op (i := 17) rfl (o_val (v := (.bool (decide (((((bsum ([(97 : UInt8), (98 : UInt8), (99 : UInt8)])).getD 3 0).toNat : Nat) : Int) = (140 : Int))))) hF177 rfl rfl rfl rfl (rn_pickT (c_true hF177 rfl ((decide_eq_true (by have h := abc4; simp only [h]; rfl)) : decide (((((bsum ([(97 : UInt8), (98 : UInt8), (99 : UInt8)])).getD 2 0).toNat : Nat) : Int) = (94 : Int)) = true)) (hF177.get rfl)) ?_)
  intro a178 hF179; clear hF177
  refine wpl_op (i := 18) rfl (o_val (v := (.bool (decide (((((bsum ([(97 : UInt8), (98 : UInt8), (99 : UInt8)])).getD 3 0).toNat : Nat) : Int) = (140 : Int))))) hF179 rfl rfl rfl rfl (rn_move (hF179.get rfl)) ?_)
  intro a180 hF181; clear hF179
  refine wpl_op (i := 19) rfl (o_val (v := (.pointer (some ⟨g37, 0 + 0, none⟩))) hF181 rfl (wanted_guard rfl rfl rfl hF181 rfl ((decide_eq_true (by have h := abc4; simp only [h]; rfl)) : decide (((((bsum ([(97 : UInt8), (98 : UInt8), (99 : UInt8)])).getD 3 0).toNat : Nat) : Int) = (140 : Int)) = true) rfl) rfl rfl (rn_indexArr Tryd.underlying26 (by kernel_rfl : (Tryd.prog.info? 5).map (·.size) = some 1) (hF181.get rfl) rfl (by omega : (0 : Int) ≤ 0) (by omega : (0 : Int) < ((32 : Nat) : Int))) ?_)
  intro a183 hF184; clear hF181
  have b185 : Blk w132 g37 26 (byteVals (bsum ([]))) := (((((((b51.ext hx65).ext hx85).ext hx98).grownN hg105 (by omega)).ext hx114).ext hx127).grownN hg134 (by omega))
  refine wpl_op (i := 20) rfl (o_val (v := (.int .u8 (((bsum ([])).getD 0 0).toNat : Nat))) hF184 rfl (wanted_guard rfl rfl rfl hF184 rfl ((decide_eq_true (by have h := abc4; simp only [h]; rfl)) : decide (((((bsum ([(97 : UInt8), (98 : UInt8), (99 : UInt8)])).getD 3 0).toNat : Nat) : Int) = (140 : Int)) = true) rfl) rfl rfl (rn_load (isAgg_no Tryd.underlying5 rfl) (hF184.get rfl) (blk_byte b185 (by omega) (by have := (show List.length (bsum ([])) = _ from (bsum_len _)); omega))) ?_)
  intro a186 hF187; clear hF184
  refine wpl_op (i := 21) rfl (o_val (v := (.bool (decide (((((bsum ([])).getD 0 0).toNat : Nat) : Int) = (105 : Int))))) hF187 rfl (wanted_guard rfl rfl rfl hF187 rfl ((decide_eq_true (by have h := abc4; simp only [h]; rfl)) : decide (((((bsum ([(97 : UInt8), (98 : UInt8), (99 : UInt8)])).getD 3 0).toNat : Nat) : Int) = (140 : Int)) = true) rfl) rfl rfl (rn_eql (hF187.get rfl) rfl) ?_)
  intro a188 hF189; clear hF187
  refine wpl_op (i := 22) rfl (o_val (v := (.bool (decide (((((bsum ([])).getD 0 0).toNat : Nat) : Int) = (105 : Int))))) hF189 rfl rfl rfl rfl (rn_pickT (c_true hF189 rfl ((decide_eq_true (by have h := abc4; simp only [h]; rfl)) : decide (((((bsum ([(97 : UInt8), (98 : UInt8), (99 : UInt8)])).getD 3 0).toNat : Nat) : Int) = (140 : Int)) = true)) (hF189.get rfl)) ?_)
  intro a190 hF191; clear hF189
  refine wpl_op (i := 23) rfl (o_val (v := (.bool (decide (((((bsum ([])).getD 0 0).toNat : Nat) : Int) = (105 : Int))))) hF191 rfl rfl rfl rfl (rn_move (hF191.get rfl)) ?_)
  intro a192 hF193; clear hF191
  refine wpl_op (i := 24) rfl (o_val (v := (.pointer (some ⟨g37, 0 + 1, none⟩))) hF193 rfl (wanted_guard rfl rfl rfl hF193 rfl ((decide_eq_true (by have h := abc4; simp only [h]; rfl)) : decide (((((bsum ([])).getD 0 0).toNat : Nat) : Int) = (105 : Int)) = true) rfl) rfl rfl (rn_indexArr Tryd.underlying26 (by kernel_rfl : (Tryd.prog.info? 5).map (·.size) = some 1) (hF193.get rfl) rfl (by omega : (0 : Int) ≤ 1) (by omega : (1 : Int) < ((32 : Nat) : Int))) ?_)
  intro a195 hF196; clear hF193
  refine wpl_op (i := 25) rfl (o_val (v := (.int .u8 (((bsum ([])).getD 1 0).toNat : Nat))) hF196 rfl (wanted_guard rfl rfl rfl hF196 rfl ((decide_eq_true (by have h := abc4; simp only [h]; rfl)) : decide (((((bsum ([])).getD 0 0).toNat : Nat) : Int) = (105 : Int)) = true) rfl) rfl rfl (rn_load (isAgg_no Tryd.underlying5 rfl) (hF196.get rfl) (blk_byte b185 (by omega) (by have := (show List.length (bsum ([])) = _ from (bsum_len _)); omega))) ?_)
  intro a197 hF198; clear hF196
  refine wpl_op (i := 26) rfl (o_val (v := (.bool (decide (((((bsum ([])).getD 1 0).toNat : Nat) : Int) = (33 : Int))))) hF198 rfl (wanted_guard rfl rfl rfl hF198 rfl ((decide_eq_true (by have h := abc4; simp only [h]; rfl)) : decide (((((bsum ([])).getD 0 0).toNat : Nat) : Int) = (105 : Int)) = true) rfl) rfl rfl (rn_eql (hF198.get rfl) rfl) ?_)
  intro a199 hF200; clear hF198
  refine wpl_op (i := 27) rfl (o_val (v := (.bool (decide (((((bsum ([])).getD 1 0).toNat : Nat) : Int) = (33 : Int))))) hF200 rfl rfl rfl rfl (rn_pickT (c_true hF200 rfl ((decide_eq_true (by have h := abc4; simp only [h]; rfl)) : decide (((((bsum ([])).getD 0 0).toNat : Nat) : Int) = (105 : Int)) = true)) (hF200.get rfl)) ?_)
  intro a201 hF202; clear hF200
  refine wpl_op (i := 28) rfl (o_val (v := (.bool (decide (((((bsum ([])).getD 1 0).toNat : Nat) : Int) = (33 : Int))))) hF202 rfl rfl rfl rfl (rn_move (hF202.get rfl)) ?_)
  intro a203 hF204; clear hF202
  refine wpl_op (i := 29) rfl (o_val (v := (.pointer (some ⟨g37, 0 + 2, none⟩))) hF204 rfl (wanted_guard rfl rfl rfl hF204 rfl ((decide_eq_true (by have h := abc4; simp only [h]; rfl)) : decide (((((bsum ([])).getD 1 0).toNat : Nat) : Int) = (33 : Int)) = true) rfl) rfl rfl (rn_indexArr Tryd.underlying26 (by kernel_rfl : (Tryd.prog.info? 5).map (·.size) = some 1) (hF204.get rfl) rfl (by omega : (0 : Int) ≤ 2) (by omega : (2 : Int) < ((32 : Nat) : Int))) ?_)
  intro a206 hF207; clear hF204
  refine wpl_op (i := 30) rfl (o_val (v := (.int .u8 (((bsum ([])).getD 2 0).toNat : Nat))) hF207 rfl (wanted_guard rfl rfl rfl hF207 rfl ((decide_eq_true (by have h := abc4; simp only [h]; rfl)) : decide (((((bsum ([])).getD 1 0).toNat : Nat) : Int) = (33 : Int)) = true) rfl) rfl rfl (rn_load (isAgg_no Tryd.underlying5 rfl) (hF207.get rfl) (blk_byte b185 (by omega) (by have := (show List.length (bsum ([])) = _ from (bsum_len _)); omega))) ?_)
  intro a208 hF209; clear hF207
  refine wpl_op (i := 31) rfl (o_val (v := (.bool (decide (((((bsum ([])).getD 2 0).toNat : Nat) : Int) = (122 : Int))))) hF209 rfl (wanted_guard rfl rfl rfl hF209 rfl ((decide_eq_true (by have h := abc4; simp only [h]; rfl)) : decide (((((bsum ([])).getD 1 0).toNat : Nat) : Int) = (33 : Int)) = true) rfl) rfl rfl (rn_eql (hF209.get rfl) rfl) ?_)
  intro a210 hF211; clear hF209
  refine wpl_op (i := 32) rfl (o_val (v := (.bool (decide (((((bsum ([])).getD 2 0).toNat : Nat) : Int) = (122 : Int))))) hF211 rfl rfl rfl rfl (rn_pickT (c_true hF211 rfl ((decide_eq_true (by have h := abc4; simp only [h]; rfl)) : decide (((((bsum ([])).getD 1 0).toNat : Nat) : Int) = (33 : Int)) = true)) (hF211.get rfl)) ?_)
  intro a212 hF213; clear hF211
  refine wpl_op (i := 33) rfl (o_val (v := (.bool (decide (((((bsum ([])).getD 2 0).toNat : Nat) : Int) = (122 : Int))))) hF213 rfl rfl rfl rfl (rn_move (hF213.get rfl)) ?_)
  intro a214 hF215; clear hF213
  refine wpl_op (i := 34) rfl (o_val (v := (.pointer (some ⟨g37, 0 + 3, none⟩))) hF215 rfl (wanted_guard rfl rfl rfl hF215 rfl ((decide_eq_true (by have h := abc4; simp only [h]; rfl)) : decide (((((bsum ([])).getD 2 0).toNat : Nat) : Int) = (122 : Int)) = true) rfl) rfl rfl (rn_indexArr Tryd.underlying26 (by kernel_rfl : (Tryd.prog.info? 5).map (·.size) = some 1) (hF215.get rfl) rfl (by omega : (0 : Int) ≤ 3) (by omega : (3 : Int) < ((32 : Nat) : Int))) ?_)
  intro a217 hF218; clear hF215
  refine wpl_op (i := 35) rfl (o_val (v := (.int .u8 (((bsum ([])).getD 3 0).toNat : Nat))) hF218 rfl (wanted_guard rfl rfl rfl hF218 rfl ((decide_eq_true (by have h := abc4; simp only [h]; rfl)) : decide (((((bsum ([])).getD 2 0).toNat : Nat) : Int) = (122 : Int)) = true) rfl) rfl rfl (rn_load (isAgg_no Tryd.underlying5 rfl) (hF218.get rfl) (blk_byte b185 (by omega) (by have := (show List.length (bsum ([])) = _ from (bsum_len _)); omega))) ?_)
  intro a219 hF220; clear hF218
  refine wpl_op (i := 36) rfl (o_val (v := (.bool (decide (((((bsum ([])).getD 3 0).toNat : Nat) : Int) = (48 : Int))))) hF220 rfl (wanted_guard rfl rfl rfl hF220 rfl ((decide_eq_true (by have h := abc4; simp only [h]; rfl)) : decide (((((bsum ([])).getD 2 0).toNat : Nat) : Int) = (122 : Int)) = true) rfl) rfl rfl (rn_eql (hF220.get rfl) rfl) ?_)
  intro a221 hF222; clear hF220
  refine wpl_op (i := 37) rfl (o_val (v := (.bool (decide (((((bsum ([])).getD 3 0).toNat : Nat) : Int) = (48 : Int))))) hF222 rfl rfl rfl rfl (rn_pickT (c_true hF222 rfl ((decide_eq_true (by have h := abc4; simp only [h]; rfl)) : decide (((((bsum ([])).getD 2 0).toNat : Nat) : Int) = (122 : Int)) = true)) (hF222.get rfl)) ?_)
  intro a223 hF224; clear hF222
  refine wpl_op (i := 38) rfl (o_val (v := (.bool (decide (((((bsum ([])).getD 3 0).toNat : Nat) : Int) = (48 : Int))))) hF224 rfl rfl rfl rfl (rn_assign (hF224.get rfl)) ?_)
  intro a225 hF226; clear hF224
  refine wpList_nil ?_
  refine hK139 _ _ ?_
  clear hK139
  have hF227 := ((((((((hF226.nil.cons (hF226.get (t := 9) (v := (.bool (decide (((((bsum ([])).getD 3 0).toNat : Nat) : Int) = (48 : Int))))) rfl)).cons (hF226.get (t := 8) (v := (.int .i64 ((climbF ([(1 : UInt8), 0, 0, 0, 0, 0, 0, 0, 0, 0, 0, 0, 0, 0, 0, 0, 0, 0, 0, 0, 0, 0, 0, 0, 0, 0, 0, 0, 0, 0, 0, 0]) 0 1 ([])).2))) rfl)).cons (hF226.get (t := 7) (v := (.pointer (some ⟨g124, 0, none⟩))) rfl)).cons (hF226.get (t := 6) (v := (.int .i64 ((climbF (List.replicate 32 0) 0 2 ([])).2))) rfl)).cons (hF226.get (t := 4) (v := (.int .i64 ((pathF ([]) 0).2))) rfl)).cons (hF226.get (t := 2) (v := (.pointer (some ⟨g37, 0, none⟩))) rfl)).cons (hF226.get (t := 1) (v := (.pointer (some ⟨g29, 0, none⟩))) rfl)).cons (hF226.get (t := 0) (v := (.bool false)) rfl))
  clear hF226
  refine wp_seq_k (fun K228 hK228 => ?_)
  have hx230 : ∃ W, w132.drew = W ∧ Ext w132 W := ⟨_, rfl, (Ext.refl _).drew⟩
  obtain ⟨w229, e231, hx230⟩ := hx230
  have z232 := hx230.size
  refine any_start (fun W => Ext w229 W ∧ Blk W g124 26 (byteVals ((climbF ([(1 : UInt8), 0, 0, 0, 0, 0, 0, 0, 0, 0, 0, 0, 0, 0, 0, 0, 0, 0, 0, 0, 0, 0, 0, 0, 0, 0, 0, 0, 0, 0, 0, 0]) 0 1 ([])).1))) (fun i => false) 26 #[false, false, false, false, false, false, false, false, false, false, false, false, false, false, false, false, false, false, false, false, false, false, false, false, false, false] rfl rfl rfl ?_
  rw [e231]; clear e231
  refine any_pure (i := 0) (v := (.bool (decide (((((bsum ([])).getD 3 0).toNat : Nat) : Int) = (48 : Int))))) hF227 (by decide +kernel) (by decide +kernel) rfl rfl rfl rfl (fun _ _ _ _ h => h) rfl (fun W => (rn_move (hF227.get rfl))) ?_
  intro a233 hF234; clear hF227
  refine any_pure (i := 1) (v := (.bool (decide (((((bsum ([])).getD 3 0).toNat : Nat) : Int) = (48 : Int))))) hF234 (by decide +kernel) (by decide +kernel) rfl rfl rfl rfl (fun _ _ _ _ h => h) rfl (fun W => (rn_move (hF234.get rfl))) ?_
  intro a235 hF236; clear hF234
  refine any_pure (i := 2) (v := (.int .i64 ((pathF ([]) 0).2))) hF236 (by decide +kernel) (by decide +kernel) rfl rfl rfl rfl (fun _ _ _ _ h => h) (wanted_guard rfl rfl rfl hF236 rfl ((decide_eq_true (by have h := abc4; simp only [h]; rfl)) : decide (((((bsum ([])).getD 3 0).toNat : Nat) : Int) = (48 : Int)) = true) rfl) (fun W => (rn_move (hF236.get rfl))) ?_
  intro a238 hF239; clear hF236
  refine any_pure (i := 3) (v := (.bool (decide (((pathF ([]) 0).2 : Int) = (1 : Int))))) hF239 (by decide +kernel) (by decide +kernel) rfl rfl rfl rfl (fun _ _ _ _ h => h) (wanted_guard rfl rfl rfl hF239 rfl ((decide_eq_true (by have h := abc4; simp only [h]; rfl)) : decide (((((bsum ([])).getD 3 0).toNat : Nat) : Int) = (48 : Int)) = true) rfl) (fun W => (rn_eql (hF239.get rfl) rfl)) ?_
  intro a240 hF241; clear hF239
  refine any_pure (i := 4) (v := (.bool (decide (((pathF ([]) 0).2 : Int) = (1 : Int))))) hF241 (by decide +kernel) (by decide +kernel) rfl rfl rfl rfl (fun _ _ _ _ h => h) rfl (fun W => (rn_pickT (c_true hF241 rfl ((decide_eq_true (by have h := abc4; simp only [h]; rfl)) : decide (((((bsum ([])).getD 3 0).toNat : Nat) : Int) = (48 : Int)) = true)) (hF241.get rfl))) ?_
  intro a242 hF243; clear hF241
  refine any_pure (i := 5) (v := (.bool (decide (((pathF ([]) 0).2 : Int) = (1 : Int))))) hF243 (by decide +kernel) (by decide +kernel) rfl rfl rfl rfl (fun _ _ _ _ h => h) rfl (fun W => (rn_move (hF243.get rfl))) ?_
  intro a244 hF245; clear hF243
  refine any_pure (i := 6) (v := (.int .i64 ((climbF (List.replicate 32 0) 0 2 ([])).2))) hF245 (by decide +kernel) (by decide +kernel) rfl rfl rfl rfl (fun _ _ _ _ h => h) (wanted_guard rfl rfl rfl hF245 rfl ((decide_eq_true path_sane) : decide (((pathF ([]) 0).2 : Int) = (1 : Int)) = true) rfl) (fun W => (rn_move (hF245.get rfl))) ?_
  intro a247 hF248; clear hF245
  refine any_pure (i := 7) (v := (.bool (decide (((climbF (List.replicate 32 0) 0 2 ([])).2 : Int) = (1 : Int))))) hF248 (by decide +kernel) (by decide +kernel) rfl rfl rfl rfl (fun _ _ _ _ h => h) (wanted_guard rfl rfl rfl hF248 rfl ((decide_eq_true path_sane) : decide (((pathF ([]) 0).2 : Int) = (1 : Int)) = true) rfl) (fun W => (rn_eql (hF248.get rfl) rfl)) ?_
  intro a249 hF250; clear hF248
  refine any_pure (i := 8) (v := (.bool (decide (((climbF (List.replicate 32 0) 0 2 ([])).2 : Int) = (1 : Int))))) hF250 (by decide +kernel) (by decide +kernel) rfl rfl rfl rfl (fun _ _ _ _ h => h) rfl (fun W => (rn_pickT (c_true hF250 rfl ((decide_eq_true path_sane) : decide (((pathF ([]) 0).2 : Int) = (1 : Int)) = true)) (hF250.get rfl))) ?_
  intro a251 hF252; clear hF250
  refine any_pure (i := 9) (v := (.bool (decide (((climbF (List.replicate 32 0) 0 2 ([])).2 : Int) = (1 : Int))))) hF252 (by decide +kernel) (by decide +kernel) rfl rfl rfl rfl (fun _ _ _ _ h => h) rfl (fun W => (rn_move (hF252.get rfl))) ?_
  intro a253 hF254; clear hF252
  refine any_pure (i := 10) (v := (.int .i64 ((climbF ([(1 : UInt8), 0, 0, 0, 0, 0, 0, 0, 0, 0, 0, 0, 0, 0, 0, 0, 0, 0, 0, 0, 0, 0, 0, 0, 0, 0, 0, 0, 0, 0, 0, 0]) 0 1 ([])).2))) hF254 (by decide +kernel) (by decide +kernel) rfl rfl rfl rfl (fun _ _ _ _ h => h) (wanted_guard rfl rfl rfl hF254 rfl ((decide_eq_true (climb_sane _)) : decide (((climbF (List.replicate 32 0) 0 2 ([])).2 : Int) = (1 : Int)) = true) rfl) (fun W => (rn_move (hF254.get rfl))) ?_
  intro a256 hF257; clear hF254
  refine any_pure (i := 11) (v := (.bool (decide (((climbF ([(1 : UInt8), 0, 0, 0, 0, 0, 0, 0, 0, 0, 0, 0, 0, 0, 0, 0, 0, 0, 0, 0, 0, 0, 0, 0, 0, 0, 0, 0, 0, 0, 0, 0]) 0 1 ([])).2 : Int) = (0 : Int))))) hF257 (by decide +kernel) (by decide +kernel) rfl rfl rfl rfl (fun _ _ _ _ h => h) (wanted_guard rfl rfl rfl hF257 rfl ((decide_eq_true (climb_sane _)) : decide (((climbF (List.replicate 32 0) 0 2 ([])).2 : Int) = (1 : Int)) = true) rfl) (fun W => (rn_eql (hF257.get rfl) rfl)) ?_
  intro a258 hF259; clear hF257
  refine any_pure (i := 12) (v := (.bool (decide (((climbF ([(1 : UInt8), 0, 0, 0, 0, 0, 0, 0, 0, 0, 0, 0, 0, 0, 0, 0, 0, 0, 0, 0, 0, 0, 0, 0, 0, 0, 0, 0, 0, 0, 0, 0]) 0 1 ([])).2 : Int) = (0 : Int))))) hF259 (by decide +kernel) (by decide +kernel) rfl rfl rfl rfl (fun _ _ _ _ h => h) rfl (fun W => (rn_pickT (c_true hF259 rfl ((decide_eq_true (climb_sane _)) : decide (((climbF (List.replicate 32 0) 0 2 ([])).2 : Int) = (1 : Int)) = true)) (hF259.get rfl))) ?_
  intro a260 hF261; clear hF259
  refine any_pure (i := 13) (v := (.bool (decide (((climbF ([(1 : UInt8), 0, 0, 0, 0, 0, 0, 0, 0, 0, 0, 0, 0, 0, 0, 0, 0, 0, 0, 0, 0, 0, 0, 0, 0, 0, 0, 0, 0, 0, 0, 0]) 0 1 ([])).2 : Int) = (0 : Int))))) hF261 (by decide +kernel) (by decide +kernel) rfl rfl rfl rfl (fun _ _ _ _ h => h) rfl (fun W => (rn_move (hF261.get rfl))) ?_
  intro a262 hF263; clear hF261
  have b266 : Blk w229 g124 26 (byteVals ((climbF ([(1 : UInt8), 0, 0, 0, 0, 0, 0, 0, 0, 0, 0, 0, 0, 0, 0, 0, 0, 0, 0, 0, 0, 0, 0, 0, 0, 0, 0, 0, 0, 0, 0, 0]) 0 1 ([])).1)) := (b133.ext hx230)
  have hS265 : Ext w229 w229 ∧ Blk w229 g124 26 (byteVals ((climbF ([(1 : UInt8), 0, 0, 0, 0, 0, 0, 0, 0, 0, 0, 0, 0, 0, 0, 0, 0, 0, 0, 0, 0, 0, 0, 0, 0, 0, 0, 0, 0, 0, 0, 0]) 0 1 ([])).1)) := ⟨(Ext.refl w229), b266⟩
  refine any_val (i := 14) (v := (.agg (byteVals ((climbF ([(1 : UInt8), 0, 0, 0, 0, 0, 0, 0, 0, 0, 0, 0, 0, 0, 0, 0, 0, 0, 0, 0, 0, 0, 0, 0, 0, 0, 0, 0, 0, 0, 0, 0]) 0 1 ([])).1)).toArray)) hF263 (by decide +kernel) (by decide +kernel) rfl rfl rfl rfl (fun _ _ _ _ h => h) (wanted_guard rfl rfl rfl hF263 rfl ((decide_eq_true (by rw [climb_sane1])) : decide (((climbF ([(1 : UInt8), 0, 0, 0, 0, 0, 0, 0, 0, 0, 0, 0, 0, 0, 0, 0, 0, 0, 0, 0, 0, 0, 0, 0, 0, 0, 0, 0, 0, 0, 0, 0]) 0 1 ([])).2 : Int) = (0 : Int)) = true) rfl) hS265 (fun W hW => (rn_loadBlk (hF263.get rfl) hW.2 Tryd.underlying26 rfl ((by kernel_rfl : (Tryd.prog.info? 26).map (·.size) = some 32).trans (congrArg some (byteVals_len (climbF_len _ _ _ _)).symm)))) ?_
  intro a267 hF268; clear hF263
  refine any_pure (i := 15) (v := (.agg (byteVals ([(1 : UInt8), 0, 0, 0, 0, 0, 0, 0, 0, 0, 0, 0, 0, 0, 0, 0, 0, 0, 0, 0, 0, 0, 0, 0, 0, 0, 0, 0, 0, 0, 0, 0])).toArray)) hF268 (by decide +kernel) (by decide +kernel) rfl rfl rfl rfl (fun _ _ _ _ h => h) (wanted_guard rfl rfl rfl hF268 rfl ((decide_eq_true (by rw [climb_sane1])) : decide (((climbF ([(1 : UInt8), 0, 0, 0, 0, 0, 0, 0, 0, 0, 0, 0, 0, 0, 0, 0, 0, 0, 0, 0, 0, 0, 0, 0, 0, 0, 0, 0, 0, 0, 0, 0]) 0 1 ([])).2 : Int) = (0 : Int)) = true) rfl) (fun W => (rn_build (parts1 rfl) (by kernel_rfl))) ?_
  intro a269 hF270; clear hF268
  refine any_one (i := 16) (by decide +kernel) rfl ?_
  refine o_new (fun g => (.slice (some ⟨g, 0, none⟩) 1 1)) (byteVals (([(1 : UInt8), 0, 0, 0, 0, 0, 0, 0, 0, 0, 0, 0, 0, 0, 0, 0, 0, 0, 0, 0, 0, 0, 0, 0, 0, 0, 0, 0, 0, 0, 0, 0]))) 26 hF270 rfl (wanted_guard rfl rfl rfl hF270 rfl ((decide_eq_true (by rw [climb_sane1])) : decide (((climbF ([(1 : UInt8), 0, 0, 0, 0, 0, 0, 0, 0, 0, 0, 0, 0, 0, 0, 0, 0, 0, 0, 0, 0, 0, 0, 0, 0, 0, 0, 0, 0, 0, 0, 0]) 0 1 ([])).2 : Int) = (0 : Int)) = true) rfl) rfl rfl (rn_buildSlice (parts1 (hF270.get rfl)) (build_wholeE (vs := [(.agg (byteVals ([(1 : UInt8), 0, 0, 0, 0, 0, 0, 0, 0, 0, 0, 0, 0, 0, 0, 0, 0, 0, 0, 0, 0, 0, 0, 0, 0, 0, 0, 0, 0, 0, 0, 0])).toArray)]) El30 rfl rfl (fun v hv => by rw [List.mem_singleton.1 hv]; exact (byteVals_len (show List.length [(1 : UInt8), 0, 0, 0, 0, 0, 0, 0, 0, 0, 0, 0, 0, 0, 0, 0, 0, 0, 0, 0, 0, 0, 0, 0, 0, 0, 0, 0, 0, 0, 0, 0] = 32 from rfl))) (by decide) (by decide) (by simp [Value.cells, byteVals]))) ?_
  intro g271 w272 a277 hF278 z275 z276 b273 hx274; clear hF270
  have b279 : Blk w272 g124 26 (byteVals ((climbF ([(1 : UInt8), 0, 0, 0, 0, 0, 0, 0, 0, 0, 0, 0, 0, 0, 0, 0, 0, 0, 0, 0, 0, 0, 0, 0, 0, 0, 0, 0, 0, 0, 0, 0]) 0 1 ([])).1)) := (b266.ext hx274)
  refine ⟨fun _ _ => ⟨((Ext.refl w229).trans hx274), b279⟩, ?_⟩
  refine any_one (i := 17) (by decide +kernel) rfl ?_
  have hf280 := (Fl.digblk (S := fun b => b = g271) (n := 1) b273 (All32.sing (show List.length [(1 : UInt8), 0, 0, 0, 0, 0, 0, 0, 0, 0, 0, 0, 0, 0, 0, 0, 0, 0, 0, 0, 0, 0, 0, 0, 0, 0, 0, 0, 0, 0, 0, 0] = 32 from rfl)) (by simp [digVals, byteVals]))
  refine o_call hF278 rfl (wanted_guard rfl rfl rfl hF278 rfl ((decide_eq_true (by rw [climb_sane1])) : decide (((climbF ([(1 : UInt8), 0, 0, 0, 0, 0, 0, 0, 0, 0, 0, 0, 0, 0, 0, 0, 0, 0, 0, 0, 0, 0, 0, 0, 0, 0, 0, 0, 0, 0, 0, 0]) 0 1 ([])).2 : Int) = (0 : Int)) = true) rfl) rfl rfl (rn_call (args1 (hF278.get rfl)) rfl (by kernel_rfl)) (tree_at ([[(1 : UInt8), 0, 0, 0, 0, 0, 0, 0, 0, 0, 0, 0, 0, 0, 0, 0, 0, 0, 0, 0, 0, 0, 0, 0, 0, 0, 0, 0, 0, 0, 0, 0]]) _ (n := 1) (v := (.slice (some ⟨g271, 0, none⟩) 1 1)) (All32.sing (show List.length [(1 : UInt8), 0, 0, 0, 0, 0, 0, 0, 0, 0, 0, 0, 0, 0, 0, 0, 0, 0, 0, 0, 0, 0, 0, 0, 0, 0, 0, 0, 0, 0, 0, 0] = 32 from rfl)) hf280 (hG.ext ((((((((((((((((((Ext.refl w).trans hx8).grownN hg15 (by omega)).trans hx20).trans hx25).trans hx32).trans hx40).grownN hg47 (by omega)).grownN hg52 (by omega)).trans hx65).trans hx85).trans hx98).grownN hg105 (by omega)).trans hx114).trans hx127).grownN hg134 (by omega)).trans hx230).trans hx274))) ?_
  rintro _ w281 ⟨rfl, hx282⟩
  refine ⟨_, rfl, ?_⟩; intro a283 hF284; clear hF278; have z285 := hx282.size
  have b286 : Blk w281 g124 26 (byteVals ((climbF ([(1 : UInt8), 0, 0, 0, 0, 0, 0, 0, 0, 0, 0, 0, 0, 0, 0, 0, 0, 0, 0, 0, 0, 0, 0, 0, 0, 0, 0, 0, 0, 0, 0, 0]) 0 1 ([])).1)) := (b279.ext hx282)
  refine ⟨fun _ _ => ⟨(((Ext.refl w229).trans hx274).trans hx282), b286⟩, ?_⟩
  refine any_pure (i := 18) (v := (.bool (decide ((climbF ([(1 : UInt8), 0, 0, 0, 0, 0, 0, 0, 0, 0, 0, 0, 0, 0, 0, 0, 0, 0, 0, 0, 0, 0, 0, 0, 0, 0, 0, 0, 0, 0, 0, 0]) 0 1 ([])).1 = treeD ([[(1 : UInt8), 0, 0, 0, 0, 0, 0, 0, 0, 0, 0, 0, 0, 0, 0, 0, 0, 0, 0, 0, 0, 0, 0, 0, 0, 0, 0, 0, 0, 0, 0, 0]]))))) hF284 (by decide +kernel) (by decide +kernel) rfl rfl rfl rfl (fun _ _ _ _ h => h) (wanted_guard rfl rfl rfl hF284 rfl ((decide_eq_true (by rw [climb_sane1])) : decide (((climbF ([(1 : UInt8), 0, 0, 0, 0, 0, 0, 0, 0, 0, 0, 0, 0, 0, 0, 0, 0, 0, 0, 0, 0, 0, 0, 0, 0, 0, 0, 0, 0, 0, 0, 0]) 0 1 ([])).2 : Int) = (0 : Int)) = true) rfl) (fun W => (rn_eqA Tryd.underlying26 Tryd.underlying5 (by kernel_rfl : (Tryd.prog.info? 5).map (·.size) = some 1) (by kernel_rfl) (hF284.get rfl) (hF284.get rfl) (climbF_len _ _ _ _) (treeD_len _))) ?_
  intro a287 hF288; clear hF284
  refine any_pure (i := 19) (v := (.bool (decide ((climbF ([(1 : UInt8), 0, 0, 0, 0, 0, 0, 0, 0, 0, 0, 0, 0, 0, 0, 0, 0, 0, 0, 0, 0, 0, 0, 0, 0, 0, 0, 0, 0, 0, 0, 0]) 0 1 ([])).1 = treeD ([[(1 : UInt8), 0, 0, 0, 0, 0, 0, 0, 0, 0, 0, 0, 0, 0, 0, 0, 0, 0, 0, 0, 0, 0, 0, 0, 0, 0, 0, 0, 0, 0, 0, 0]]))))) hF288 (by decide +kernel) (by decide +kernel) rfl rfl rfl rfl (fun _ _ _ _ h => h) rfl (fun W => (rn_pickT (c_true hF288 rfl ((decide_eq_true (by rw [climb_sane1])) : decide (((climbF ([(1 : UInt8), 0, 0, 0, 0, 0, 0, 0, 0, 0, 0, 0, 0, 0, 0, 0, 0, 0, 0, 0, 0, 0, 0, 0, 0, 0, 0, 0, 0, 0, 0, 0]) 0 1 ([])).2 : Int) = (0 : Int)) = true)) (hF288.get rfl))) ?_
  intro a289 hF290; clear hF288
  refine any_pure (i := 20) (v := (.bool (decide ((climbF ([(1 : UInt8), 0, 0, 0, 0, 0, 0, 0, 0, 0, 0, 0, 0, 0, 0, 0, 0, 0, 0, 0, 0, 0, 0, 0, 0, 0, 0, 0, 0, 0, 0, 0]) 0 1 ([])).1 = treeD ([[(1 : UInt8), 0, 0, 0, 0, 0, 0, 0, 0, 0, 0, 0, 0, 0, 0, 0, 0, 0, 0, 0, 0, 0, 0, 0, 0, 0, 0, 0, 0, 0, 0, 0]]))))) hF290 (by decide +kernel) (by decide +kernel) rfl rfl rfl rfl (fun _ _ _ _ h => h) rfl (fun W => (rn_move (hF290.get rfl))) ?_
  intro a291 hF292; clear hF290
  refine any_one (i := 21) (by decide +kernel) rfl ?_
  have hf294 := (show Fl (fun _ => False) w281 32 (.slice none 0 0) 0 (digVals []) from Fl.nil _)
  refine o_call hF292 rfl (wanted_guard rfl rfl rfl hF292 rfl ((decide_eq_true (by rw [climb_sane1, tree_sane])) : decide ((climbF ([(1 : UInt8), 0, 0, 0, 0, 0, 0, 0, 0, 0, 0, 0, 0, 0, 0, 0, 0, 0, 0, 0, 0, 0, 0, 0, 0, 0, 0, 0, 0, 0, 0, 0]) 0 1 ([])).1 = treeD ([[(1 : UInt8), 0, 0, 0, 0, 0, 0, 0, 0, 0, 0, 0, 0, 0, 0, 0, 0, 0, 0, 0, 0, 0, 0, 0, 0, 0, 0, 0, 0, 0, 0, 0]])) = true) rfl) rfl rfl (rn_call (args1 rfl) rfl (by kernel_rfl)) (tree_at ([]) _ (n := 0) (v := (.slice none 0 0)) All32.nil hf294 (hG.ext (((((((((((((((((((Ext.refl w).trans hx8).grownN hg15 (by omega)).trans hx20).trans hx25).trans hx32).trans hx40).grownN hg47 (by omega)).grownN hg52 (by omega)).trans hx65).trans hx85).trans hx98).grownN hg105 (by omega)).trans hx114).trans hx127).grownN hg134 (by omega)).trans hx230).trans hx274).trans hx282))) ?_
  rintro _ w295 ⟨rfl, hx296⟩
  refine ⟨_, rfl, ?_⟩; intro a297 hF298; clear hF292; have z299 := hx296.size
  have b300 : Blk w295 g124 26 (byteVals ((climbF ([(1 : UInt8), 0, 0, 0, 0, 0, 0, 0, 0, 0, 0, 0, 0, 0, 0, 0, 0, 0, 0, 0, 0, 0, 0, 0, 0, 0, 0, 0, 0, 0, 0, 0]) 0 1 ([])).1)) := (b286.ext hx296)
  refine ⟨fun _ _ => ⟨((((Ext.refl w229).trans hx274).trans hx282).trans hx296), b300⟩, ?_⟩
  refine any_one (i := 22) (by decide +kernel) rfl ?_
  refine o_call hF298 rfl (wanted_guard rfl rfl rfl hF298 rfl ((decide_eq_true (by rw [climb_sane1, tree_sane])) : decide ((climbF ([(1 : UInt8), 0, 0, 0, 0, 0, 0, 0, 0, 0, 0, 0, 0, 0, 0, 0, 0, 0, 0, 0, 0, 0, 0, 0, 0, 0, 0, 0, 0, 0, 0, 0]) 0 1 ([])).1 = treeD ([[(1 : UInt8), 0, 0, 0, 0, 0, 0, 0, 0, 0, 0, 0, 0, 0, 0, 0, 0, 0, 0, 0, 0, 0, 0, 0, 0, 0, 0, 0, 0, 0, 0, 0]])) = true) rfl) rfl rfl (rn_call (args2 rfl rfl) rfl (by kernel_rfl)) (tagged_at ([101, 109, 112, 116, 121]) (v := (.slice none 0 0)) (n := 0) ([]) _ (show Fl (fun _ => False) w295 1 (.slice none 0 0) 0 (byteVals []) from Fl.nil _) (hG.ext ((((((((((((((((((((Ext.refl w).trans hx8).grownN hg15 (by omega)).trans hx20).trans hx25).trans hx32).trans hx40).grownN hg47 (by omega)).grownN hg52 (by omega)).trans hx65).trans hx85).trans hx98).grownN hg105 (by omega)).trans hx114).trans hx127).grownN hg134 (by omega)).trans hx230).trans hx274).trans hx282).trans hx296)) (by simp <;> omega) (by omega)) ?_
  rintro _ w301 ⟨rfl, hx302⟩
  refine ⟨_, rfl, ?_⟩; intro a303 hF304; clear hF298; have z305 := hx302.size
  have b306 : Blk w301 g124 26 (byteVals ((climbF ([(1 : UInt8), 0, 0, 0, 0, 0, 0, 0, 0, 0, 0, 0, 0, 0, 0, 0, 0, 0, 0, 0, 0, 0, 0, 0, 0, 0, 0, 0, 0, 0, 0, 0]) 0 1 ([])).1)) := (b300.ext hx302)
  refine ⟨fun _ _ => ⟨(((((Ext.refl w229).trans hx274).trans hx282).trans hx296).trans hx302), b306⟩, ?_⟩
  refine any_pure (i := 23) (v := (.bool (decide (treeD ([]) = tagged ([101, 109, 112, 116, 121]) ([]))))) hF304 (by decide +kernel) (by decide +kernel) rfl rfl rfl rfl (fun _ _ _ _ h => h) (wanted_guard rfl rfl rfl hF304 rfl ((decide_eq_true (by rw [climb_sane1, tree_sane])) : decide ((climbF ([(1 : UInt8), 0, 0, 0, 0, 0, 0, 0, 0, 0, 0, 0, 0, 0, 0, 0, 0, 0, 0, 0, 0, 0, 0, 0, 0, 0, 0, 0, 0, 0, 0, 0]) 0 1 ([])).1 = treeD ([[(1 : UInt8), 0, 0, 0, 0, 0, 0, 0, 0, 0, 0, 0, 0, 0, 0, 0, 0, 0, 0, 0, 0, 0, 0, 0, 0, 0, 0, 0, 0, 0, 0, 0]])) = true) rfl) (fun W => (rn_eqA Tryd.underlying26 Tryd.underlying5 (by kernel_rfl : (Tryd.prog.info? 5).map (·.size) = some 1) (by kernel_rfl) (hF304.get rfl) (hF304.get rfl) (treeD_len _) (tagged_len _ _))) ?_
  intro a307 hF308; clear hF304
  refine any_pure (i := 24) (v := (.bool (decide (treeD ([]) = tagged ([101, 109, 112, 116, 121]) ([]))))) hF308 (by decide +kernel) (by decide +kernel) rfl rfl rfl rfl (fun _ _ _ _ h => h) rfl (fun W => (rn_pickT (c_true hF308 rfl ((decide_eq_true (by rw [climb_sane1, tree_sane])) : decide ((climbF ([(1 : UInt8), 0, 0, 0, 0, 0, 0, 0, 0, 0, 0, 0, 0, 0, 0, 0, 0, 0, 0, 0, 0, 0, 0, 0, 0, 0, 0, 0, 0, 0, 0, 0]) 0 1 ([])).1 = treeD ([[(1 : UInt8), 0, 0, 0, 0, 0, 0, 0, 0, 0, 0, 0, 0, 0, 0, 0, 0, 0, 0, 0, 0, 0, 0, 0, 0, 0, 0, 0, 0, 0, 0, 0]])) = true)) (hF308.get rfl))) ?_
  intro a309 hF310; clear hF308
  refine any_pure (i := 25) (v := (.bool (decide (treeD ([]) = tagged ([101, 109, 112, 116, 121]) ([]))))) hF310 (by decide +kernel) (by decide +kernel) rfl rfl rfl rfl (fun _ _ _ _ h => h) rfl (fun W => (rn_assign (hF310.get rfl))) ?_
  intro a311 hF312; clear hF310
  refine any_nil (by decide +kernel) ?_
  refine hK228 _ _ ?_
  clear hK228
  have hF313 := ((((((((hF312.nil.cons (hF312.get (t := 9) (v := (.bool (decide (((((bsum ([])).getD 3 0).toNat : Nat) : Int) = (48 : Int))))) rfl)).cons (hF312.get (t := 8) (v := (.int .i64 ((climbF ([(1 : UInt8), 0, 0, 0, 0, 0, 0, 0, 0, 0, 0, 0, 0, 0, 0, 0, 0, 0, 0, 0, 0, 0, 0, 0, 0, 0, 0, 0, 0, 0, 0, 0]) 0 1 ([])).2))) rfl)).cons (hF312.get (t := 7) (v := (.pointer (some ⟨g124, 0, none⟩))) rfl)).cons (hF312.get (t := 6) (v := (.int .i64 ((climbF (List.replicate 32 0) 0 2 ([])).2))) rfl)).cons (hF312.get (t := 4) (v := (.int .i64 ((pathF ([]) 0).2))) rfl)).cons (hF312.get (t := 2) (v := (.pointer (some ⟨g37, 0, none⟩))) rfl)).cons (hF312.get (t := 1) (v := (.pointer (some ⟨g29, 0, none⟩))) rfl)).cons (hF312.get (t := 0) (v := (.bool (decide (treeD ([]) = tagged ([101, 109, 112, 116, 121]) ([]))))) rfl))
  clear hF312
  refine wp_ret ?_
  refine ret1 hF313 rfl rfl ?_
  exact ⟨congrArg (fun b => Ending.returned (.bool b)) ((decide_eq_true (tree_nil' rfl)) : decide (treeD ([]) = tagged ([101, 109, 112, 116, 121]) ([])) = true), (((((((((((((((((((((Ext.refl w).trans hx8).grownN hg15 (by omega)).trans hx20).trans hx25).trans hx32).trans hx40).grownN hg47 (by omega)).grownN hg52 (by omega)).trans hx65).trans hx85).trans hx98).grownN hg105 (by omega)).trans hx114).trans hx127).grownN hg134 (by omega)).trans hx230).trans hx274).trans hx282).trans hx296).trans hx302)⟩

set_option maxRecDepth 100000 in
set_option maxHeartbeats 1000000 in
theorem digsOf_any (A : Option Addr) (c : Nat) (s : List UInt8) (w : World) (hf : Fl S w 1 (.slice A s.length c) s.length (byteVals s)) :
    Calls Tryd.prog 15 #[.slice A s.length c] w (fun e w' => ∃ A c, e = .returned (.slice A (digsOf s).length c) ∧ Fl (fun b => w.heap.size ≤ b) w' 32 (.slice A (digsOf s).length c) (digsOf s).length (digVals (digsOf s)) ∧ Ext w w') := by
  have hcc := (Fl.cel hf).2.1
  refine calls_enter (l := [(.slice A s.length c)]) Tryd.func15 rfl rfl rfl (fun aA hF => ?_)
  refine wp_seq_k (fun K1 hK1 => ?_)
  refine wp_region_lit ?_
  refine wpl_op (i := 0) rfl (o_val (v := (.slice none 0 0)) hF rfl rfl rfl rfl (rn_assign rfl) ?_)
  intro a2 hF3; clear hF
  refine wpList_nil ?_
  refine hK1 _ _ ?_
  clear hK1
  refine wp_seq_k (fun K4 hK4 => ?_)
  refine wp_region_lit ?_
  refine wpl_op (i := 0) rfl (o_new (fun g => (.slice (some ⟨g, 0, none⟩) 0 0)) [] 26 hF3 rfl rfl rfl rfl (rn_buildSlice (parts0 ) (by kernel_rfl)) ?_)
  intro g5 w6 a11 hF12 z9 z10 b7 hx8; clear hF3
  refine wpl_op (i := 1) rfl (o_val (v := (.slice (some ⟨g5, 0, none⟩) 0 0)) hF12 rfl rfl rfl rfl (rn_assign (hF12.get rfl)) ?_)
  intro a13 hF14; clear hF12
  refine wpList_nil ?_
  refine hK4 _ _ ?_
  clear hK4
  refine wp_seq_k (fun K15 hK15 => ?_)
  refine wp_seq_k (fun K16 hK16 => ?_)
  refine wp_region_lit ?_
  refine wpl_op (i := 0) rfl (o_val (v := (.int .i64 0)) hF14 rfl rfl rfl rfl (rn_assign rfl) ?_)
  intro a17 hF18; clear hF14
  refine wpList_nil ?_
  refine hK16 _ _ ?_
  clear hK16
  refine wp_block ?_
  refine wp_loop (fun a' W => ∃ (k : Nat) (Ap : Option Addr) (np : Nat) (cp : Nat) (l : List (List UInt8)), Sl 29 [(0, (.slice A s.length c)), (2, (.slice none 0 0)), (3, (.slice Ap np cp)), (4, (.int .i64 (k : Nat)))] a' ∧ (k ≤ s.length ∧ k ≤ 24) ∧ np = k ∧ l = digsTo s k ∧ Ext w W ∧ W.ownsRow g5 26 32 (.slice Ap np cp) np (digVals l) ∧ g5 ≤ W.heap.size ∧ w6.heap.size ≤ W.heap.size) (fun a' _ => s.length - (intOf (a'.eval (.tmp 4))).toNat) ⟨0, (some ⟨g5, 0, none⟩), 0, 0, [], ((((hF18.nil.cons (q_get hF18 (t := 4) rfl (by first | rfl | (congr 1; omega) | (congr 1; done)))).cons (q_get hF18 (t := 3) rfl (by first | rfl | (congr 1; omega) | (congr 1; done)))).cons (q_get hF18 (t := 2) rfl rfl)).cons (q_get hF18 (t := 0) rfl rfl)), ⟨by omega, by omega⟩, (by omega), rfl, ((Ext.refl w).trans hx8), (own_blk0 (k := 32) b7), (by omega), (Nat.le_refl _)⟩ ?_
  clear hF18
  rintro a19 w20 ⟨k, Ap, np, cp, l, hF21, hp23, hp24, hp25, hx22, r26, hf27, hf28⟩
  have hL29 := hF21
  have z30 := hx22.size
  have z31 := own_form0 r26
  have hl32 : All32 l := by rw [hp25]; exact digsTo_32 _ _
  refine wp_seq_k (fun K32 hK32 => ?_)
  refine wp_seq_k (fun K33 hK33 => ?_)
  refine wp_region_lit ?_
  refine wpl_op (i := 0) rfl (o_val (v := (.int .i64 (k : Nat))) hF21 rfl rfl rfl rfl (rn_move (hF21.get rfl)) ?_)
  intro a34 hF35; clear hF21
  refine wpl_op (i := 1) rfl (o_val (v := (.slice A s.length c)) hF35 rfl rfl rfl rfl (rn_move (hF35.get rfl)) ?_)
  intro a36 hF37; clear hF35
  refine wpl_op (i := 2) rfl (o_val (v := (.int .i64 (s.length : Nat))) hF37 rfl rfl rfl rfl (rn_len_slice Tryd.underlying22 (hF37.get rfl)) ?_)
  intro a38 hF39; clear hF37
  refine wpl_op (i := 3) rfl (o_val (v := (.bool (decide (((k : Nat) : Int) < ((s.length : Nat) : Int))))) hF39 rfl rfl rfl rfl (rn_lss (hF39.get rfl) (hF39.get rfl)) ?_)
  intro a40 hF41; clear hF39
  refine wpl_op (i := 4) rfl (o_val (v := (.bool (decide (((k : Nat) : Int) < ((s.length : Nat) : Int))))) hF41 rfl rfl rfl rfl (rn_move (hF41.get rfl)) ?_)
  intro a42 hF43; clear hF41
  by_cases hc44 : ((k : Nat) : Int) < ((s.length : Nat) : Int)
  · skip
    refine wpl_op (i := 5) rfl (o_val (v := (.int .i64 (k : Nat))) hF43 rfl (wanted_guard rfl rfl rfl hF43 rfl (decide_eq_true hc44) rfl) rfl rfl (rn_move (hF43.get rfl)) ?_)
    intro a45 hF46; clear hF43
    refine wpl_op (i := 6) rfl (o_val (v := (.bool (decide (((k : Nat) : Int) < (24 : Int))))) hF46 rfl (wanted_guard rfl rfl rfl hF46 rfl (decide_eq_true hc44) rfl) rfl rfl (rn_lss (hF46.get rfl) rfl) ?_)
    intro a47 hF48; clear hF46
    refine wpl_op (i := 7) rfl (o_val (v := (.bool (decide (((k : Nat) : Int) < (24 : Int))))) hF48 rfl rfl rfl rfl (rn_pickT (c_true hF48 rfl (decide_eq_true hc44)) (hF48.get rfl)) ?_)
    intro a49 hF50; clear hF48
    refine wpList_nil ?_
    refine hK33 _ _ ?_
    clear hK33
    have hF51 := (((((hF50.nil.cons (hF50.get (t := 13) (v := (.bool (decide (((k : Nat) : Int) < (24 : Int))))) rfl)).cons (hF50.get (t := 4) (v := (.int .i64 (k : Nat))) rfl)).cons (hF50.get (t := 3) (v := (.slice Ap np cp)) rfl)).cons (hF50.get (t := 2) (v := (.slice none 0 0)) rfl)).cons (hF50.get (t := 0) (v := (.slice A s.length c)) rfl))
    clear hF50
    by_cases hc52 : ((k : Nat) : Int) < (24 : Int)
    · skip
      refine wp_cond_true (c_true hF51 rfl (decide_eq_true hc52)) ?_
      refine wp_skip ?_
      refine hK32 _ _ ?_
      clear hK32
      refine wp_seq_k (fun K53 hK53 => ?_)
      refine wp_block ?_
      refine wp_region_lit ?_
      refine wpl_op (i := 0) rfl (o_val (v := (.slice Ap np cp)) hF51 rfl rfl rfl rfl (rn_move (hF51.get rfl)) ?_)
      intro a54 hF55; clear hF51
      refine wpl_op (i := 1) rfl (o_val (v := (.slice A s.length c)) hF55 rfl rfl rfl rfl (rn_move (hF55.get rfl)) ?_)
      intro a56 hF57; clear hF55
      refine wpl_op (i := 2) rfl (o_val (v := (.int .i64 (k : Nat))) hF57 rfl rfl rfl rfl (rn_move (hF57.get rfl)) ?_)
      intro a58 hF59; clear hF57
      have d63 := (hf.ext hx22)
      obtain ⟨b60, o61, hA62, -⟩ := Fl.at d63 (by omega)
      refine wpl_op (i := 3) rfl (o_val (v := (.pointer (some ⟨b60, o61 + k, none⟩))) hF59 rfl rfl rfl rfl (rn_index1 Tryd.underlying22 (by kernel_rfl : (Tryd.prog.info? 5).map (·.size) = some 1) ((hF59.get rfl).trans (by rw [hA62])) (hF59.get rfl) (by omega : (0 : Int) ≤ (k : Nat)) (by omega : ((k : Nat) : Int) < ((s.length : Nat) : Int))) ?_)
      intro a64 hF65; clear hF59
      refine wpl_op (i := 4) rfl (o_val (v := (.int .u8 ((s.getD k 0).toNat : Nat))) hF65 rfl rfl rfl rfl (rn_load (isAgg_no Tryd.underlying5 rfl) (hF65.get rfl) (Fl.cellAt d63 hA62 (byteVals_at (i := k) (by omega)))) ?_)
      intro a66 hF67; clear hF65
      refine wpl_op (i := 5) rfl (o_val (v := (.int .u8 (((s.getD k 0) % (4 : UInt8)).toNat : Nat))) hF67 rfl rfl rfl rfl (rn_rem8 (a := (s.getD k 0)) (b := (4 : UInt8)) (hF67.get rfl) rfl (by decide)) ?_)
      intro a68 hF69; clear hF67
      refine wpl_op (i := 6) rfl (o_val (v := (.int .i64 (k : Nat))) hF69 rfl rfl rfl rfl (rn_move (hF69.get rfl)) ?_)
      intro a70 hF71; clear hF69
      refine wpl_op (i := 7) rfl (o_val (v := (.int .i64 (k / 8 : Nat))) hF71 rfl rfl rfl rfl (rn_quoN (a := k) (b := 8) (hF71.get rfl) rfl (by omega) (by omega)) ?_)
      intro a72 hF73; clear hF71
      refine wpl_op (i := 8) rfl (o_val (v := (.int .u8 ((UInt8.ofNat (k / 8)).toNat : Nat))) hF73 rfl rfl rfl rfl (rn_convW Tryd.underlying3 Tryd.underlying5 (hF73.get rfl) (cvi_8 (k / 8))) ?_)
      intro a74 hF75; clear hF73
      refine wpl_op (i := 9) rfl (o_val (v := (.agg (byteVals ([((s.getD k 0) % (4 : UInt8)), (UInt8.ofNat (k / 8)), 0, 0, 0, 0, 0, 0, 0, 0, 0, 0, 0, 0, 0, 0, 0, 0, 0, 0, 0, 0, 0, 0, 0, 0, 0, 0, 0, 0, 0, 0])).toArray)) hF75 rfl rfl rfl rfl (rn_build (parts2 (hF75.get rfl) (hF75.get rfl)) (by kernel_rfl)) ?_)
      intro a76 hF77; clear hF75
      have hf78 := r26
      refine wpl_op (i := 10) rfl (o_new (fun g => (.slice (some ⟨g, 0, none⟩) 1 1)) (byteVals (([((s.getD k 0) % (4 : UInt8)), (UInt8.ofNat (k / 8)), 0, 0, 0, 0, 0, 0, 0, 0, 0, 0, 0, 0, 0, 0, 0, 0, 0, 0, 0, 0, 0, 0, 0, 0, 0, 0, 0, 0, 0, 0]))) 26 hF77 rfl rfl rfl rfl (rn_buildSlice (parts1 (hF77.get rfl)) (build_wholeE (vs := [(.agg (byteVals ([((s.getD k 0) % (4 : UInt8)), (UInt8.ofNat (k / 8)), 0, 0, 0, 0, 0, 0, 0, 0, 0, 0, 0, 0, 0, 0, 0, 0, 0, 0, 0, 0, 0, 0, 0, 0, 0, 0, 0, 0, 0, 0])).toArray)]) El30 rfl rfl (fun v hv => by rw [List.mem_singleton.1 hv]; exact (byteVals_len (show List.length [((s.getD k 0) % (4 : UInt8)), (UInt8.ofNat (k / 8)), 0, 0, 0, 0, 0, 0, 0, 0, 0, 0, 0, 0, 0, 0, 0, 0, 0, 0, 0, 0, 0, 0, 0, 0, 0, 0, 0, 0, 0, 0] = 32 from rfl))) (by decide) (by decide) (by simp [Value.cells, byteVals]))) ?_)
      intro g79 w80 a85 hF86 z83 z84 b81 hx82; clear hF77
      have nb87 := own_new (g := g79) hf78 (by omega)
      have r88 := (own_ext r26 hx82)
      have hf97 := r88
      have nb98 : some g79 ≠ (Value.slice Ap np cp).ownBlock := nb87
      have z99 := b81.lt
      refine wpl_op (i := 11) rfl (o_appB (zs := digVals (l ++ ([[((s.getD k 0) % (4 : UInt8)), (UInt8.ofNat (k / 8)), 0, 0, 0, 0, 0, 0, 0, 0, 0, 0, 0, 0, 0, 0, 0, 0, 0, 0, 0, 0, 0, 0, 0, 0, 0, 0, 0, 0, 0, 0]]))) El30 hF86 rfl rfl rfl rfl rfl (hF86.get rfl) (hF86.get rfl) hf97 (Fl.cel (Fl.digblk (S := fun b => b = g79) b81 (All32.sing (show List.length [((s.getD k 0) % (4 : UInt8)), (UInt8.ofNat (k / 8)), 0, 0, 0, 0, 0, 0, 0, 0, 0, 0, 0, 0, 0, 0, 0, 0, 0, 0, 0, 0, 0, 0, 0, 0, 0, 0, 0, 0, 0, 0] = 32 from rfl)) (by simp [digVals, byteVals]))).2.2 (by omega) (by omega) (by omega) (digVals_app _ _) ?_)
      intro A89 c90 w91 a100 hF101 r92 hg93 z94 z95 hnb96; clear hF86; have z102 := hg93.size
      have nb103 := hnb96 g79 (by omega) nb98
      refine wpl_op (i := 12) rfl (o_val (v := (.slice A89 (np + 1) c90)) hF101 rfl rfl rfl rfl (rn_assign (hF101.get rfl)) ?_)
      intro a104 hF105; clear hF101
      refine wpList_nil ?_
      refine hK53 _ _ ?_
      clear hK53
      have hF106 := (((((hF105.nil.cons (hF105.get (t := 13) (v := (.bool (decide (((k : Nat) : Int) < (24 : Int))))) rfl)).cons (hF105.get (t := 4) (v := (.int .i64 (k : Nat))) rfl)).cons (hF105.get (t := 3) (v := (.slice A89 (np + 1) c90)) rfl)).cons (hF105.get (t := 2) (v := (.slice none 0 0)) rfl)).cons (hF105.get (t := 0) (v := (.slice A s.length c)) rfl))
      clear hF105
      refine wp_region_lit ?_
      refine wpl_op (i := 0) rfl (o_val (v := (.int .i64 (k : Nat))) hF106 rfl rfl rfl rfl (rn_move (hF106.get rfl)) ?_)
      intro a107 hF108; clear hF106
      refine wpl_op (i := 1) rfl (o_val (v := (.int .i64 (k + 1 : Nat))) hF108 rfl rfl rfl rfl (rn_addN (a := k) (b := 1) (hF108.get rfl) rfl (by omega)) ?_)
      intro a109 hF110; clear hF108
      refine wpl_op (i := 2) rfl (o_val (v := (.int .i64 (k + 1 : Nat))) hF110 rfl rfl rfl rfl (rn_assign (hF110.get rfl)) ?_)
      intro a111 hF112; clear hF110
      refine wpList_nil ?_
      refine ⟨⟨(k + 1), A89, np + 1, c90, l ++ ([[((s.getD k 0) % (4 : UInt8)), (UInt8.ofNat (k / 8)), 0, 0, 0, 0, 0, 0, 0, 0, 0, 0, 0, 0, 0, 0, 0, 0, 0, 0, 0, 0, 0, 0, 0, 0, 0, 0, 0, 0, 0, 0]]), ((((hF112.nil.cons (q_get hF112 (t := 4) rfl (by first | rfl | (congr 1; omega) | (congr 1; done)))).cons (q_get hF112 (t := 3) rfl (by first | rfl | (congr 1; omega) | (congr 1; done)))).cons (q_get hF112 (t := 2) rfl rfl)).cons (q_get hF112 (t := 0) rfl rfl)), ⟨by omega, by omega⟩, (by omega), (digsTo_step hp25), (ext_row (((Ext.refl w).trans hx22).trans hx82) hg93 hf97 (by omega)), r92, (by omega), (by omega)⟩, ?_⟩
      rw [hF112.get (t := 4) rfl, hL29.get (t := 4) rfl]; simp [intOf] <;> omega
    · skip
      refine wp_cond_false (c_false hF51 rfl (decide_eq_false hc52)) ?_
      refine wp_exit ?_
      refine exit_then ?_
      refine exit_then ?_
      refine exit_here ?_
      refine hK15 _ _ ?_
      clear hK15
      refine wp_seq_k (fun K113 hK113 => ?_)
      refine wp_region_lit ?_
      refine wpl_op (i := 0) rfl (o_val (v := (.slice Ap np cp)) hF51 rfl rfl rfl rfl (rn_move (hF51.get rfl)) ?_)
      intro a114 hF115; clear hF51
      refine wpl_op (i := 1) rfl (o_val (v := (.slice Ap np cp)) hF115 rfl rfl rfl rfl (rn_assign (hF115.get rfl)) ?_)
      intro a116 hF117; clear hF115
      refine wpList_nil ?_
      refine hK113 _ _ ?_
      clear hK113
      refine wp_ret ?_
      refine ret1 hF117 rfl rfl ?_
      have hl : l = digsOf s := by rw [hp25, digsOf, show k = min s.length 24 by omega]
      have hrow := Fl.own (S := fun b => w.heap.size ≤ b) r26 (fun b hb => by omega) (digVals_one _)
      have hnp := Fl.dlen hrow hl32
      have hx := ((Ext.refl w).trans hx22)
      subst hl
      subst hnp
      exact ⟨Ap, cp, rfl, hrow, hx⟩
  · skip
    refine wpl_op (i := 5) rfl (o_skip hF43 rfl (unwanted_guard rfl rfl rfl hF43 rfl (decide_eq_false hc44) rfl) rfl rfl ?_)
    intro a118 hF119; clear hF43
    refine wpl_op (i := 6) rfl (o_skip hF119 rfl (unwanted_guard rfl rfl rfl hF119 rfl (decide_eq_false hc44) rfl) rfl rfl ?_)
    intro a120 hF121; clear hF119
    refine wpl_op (i := 7) rfl (o_val (v := (.bool false)) hF121 rfl rfl rfl rfl (rn_pickF (c_false hF121 rfl (decide_eq_false hc44)) rfl) ?_)
    intro a122 hF123; clear hF121
    refine wpList_nil ?_
    refine hK33 _ _ ?_
    clear hK33
    have hF124 := (((((hF123.nil.cons (hF123.get (t := 13) (v := (.bool false)) rfl)).cons (hF123.get (t := 4) (v := (.int .i64 (k : Nat))) rfl)).cons (hF123.get (t := 3) (v := (.slice Ap np cp)) rfl)).cons (hF123.get (t := 2) (v := (.slice none 0 0)) rfl)).cons (hF123.get (t := 0) (v := (.slice A s.length c)) rfl))
    clear hF123
    refine wp_cond_false (c_false hF124 rfl rfl) ?_
    refine wp_exit ?_
    refine exit_then ?_
    refine exit_then ?_
    refine exit_here ?_
    refine hK15 _ _ ?_
    clear hK15
    refine wp_seq_k (fun K125 hK125 => ?_)
    refine wp_region_lit ?_
    refine wpl_op (i := 0) rfl (o_val (v := (.slice Ap np cp)) hF124 rfl rfl rfl rfl (rn_move (hF124.get rfl)) ?_)
    intro a126 hF127; clear hF124
    refine wpl_op (i := 1) rfl (o_val (v := (.slice Ap np cp)) hF127 rfl rfl rfl rfl (rn_assign (hF127.get rfl)) ?_)
    intro a128 hF129; clear hF127
    refine wpList_nil ?_
    refine hK125 _ _ ?_
    clear hK125
    refine wp_ret ?_
    refine ret1 hF129 rfl rfl ?_
    have hl : l = digsOf s := by rw [hp25, digsOf, show k = min s.length 24 by omega]
    have hrow := Fl.own (S := fun b => w.heap.size ≤ b) r26 (fun b hb => by omega) (digVals_one _)
    have hnp := Fl.dlen hrow hl32
    have hx := ((Ext.refl w).trans hx22)
    subst hl
    subst hnp
    exact ⟨Ap, cp, rfl, hrow, hx⟩

theorem digsOf_at {v : Value} {n : Nat} (s : List UInt8) (w : World) (hf : Fl S w 1 v n (byteVals s)) : Calls Tryd.prog 15 #[v] w (fun e w' => ∃ A c, e = .returned (.slice A (digsOf s).length c) ∧ Fl (fun b => w.heap.size ≤ b) w' 32 (.slice A (digsOf s).length c) (digsOf s).length (digVals (digsOf s)) ∧ Ext w w') := by
  have hm := hf.blen
  subst hm
  obtain ⟨A, c, rfl, _⟩ := hf.form
  exact digsOf_any A c s w hf

set_option maxRecDepth 100000 in
set_option maxHeartbeats 1000000 in
theorem steps_any (a n : Nat) (w : World) (ha : a < n) (hn : n ≤ 4398046511104) :
    Calls Tryd.prog 23 #[.int .i64 (a : Nat), .int .i64 (n : Nat)] w (fun e w' => e = .returned (.int .i64 ((dirs a n).length : Nat)) ∧ Ext w w') := by
  refine calls_enter (l := [(.int .i64 (a : Nat)), (.int .i64 (n : Nat))]) Tryd.func23 rfl rfl rfl (fun aA hF => ?_)
  refine wp_seq_k (fun K1 hK1 => ?_)
  refine wp_region_lit ?_
  refine wpl_op (i := 0) rfl (o_val (v := (.int .i64 0)) hF rfl rfl rfl rfl (rn_assign rfl) ?_)
  intro a2 hF3; clear hF
  refine wpList_nil ?_
  refine hK1 _ _ ?_
  clear hK1
  refine wp_seq_k (fun K4 hK4 => ?_)
  refine wp_region_lit ?_
  refine wpl_op (i := 0) rfl (o_val (v := (.int .i64 0)) hF3 rfl rfl rfl rfl (rn_assign rfl) ?_)
  intro a5 hF6; clear hF3
  refine wpList_nil ?_
  refine hK4 _ _ ?_
  clear hK4
  refine wp_seq_k (fun K7 hK7 => ?_)
  refine wp_block ?_
  refine wp_loop (fun a' W => ∃ (a0 : Nat) (n0 : Nat) (t : Nat), Sl 28 [(0, (.int .i64 (a0 : Nat))), (1, (.int .i64 (n0 : Nat))), (4, (.int .i64 0)), (5, (.int .i64 (t : Nat)))] a' ∧ (a0 < n0 ∧ n0 ≤ n) ∧ (dirs a n).length = t + (dirs a0 n0).length ∧ t + n0 ≤ n ∧ Ext w W ∧ w.heap.size ≤ W.heap.size) (fun a' _ => (intOf (a'.eval (.tmp 1))).toNat) ⟨a, n, 0, ((((hF6.nil.cons (q_get hF6 (t := 5) rfl (by first | rfl | (congr 1; omega) | (congr 1; done)))).cons (q_get hF6 (t := 4) rfl rfl)).cons (q_get hF6 (t := 1) rfl (by first | rfl | (congr 1; omega) | (congr 1; done)))).cons (q_get hF6 (t := 0) rfl (by first | rfl | (congr 1; omega) | (congr 1; done)))), ⟨by omega, by omega⟩, (Nat.zero_add _).symm, (by omega), (Ext.refl w), (Nat.le_refl _)⟩ ?_
  clear hF6
  rintro a8 w9 ⟨a0, n0, t, hF10, hp12, hp13, hp14, hx11, hf15⟩
  have hL16 := hF10
  have z17 := hx11.size
  refine wp_seq_k (fun K18 hK18 => ?_)
  refine wp_seq_k (fun K19 hK19 => ?_)
  refine wp_region_lit ?_
  refine wpl_op (i := 0) rfl (o_val (v := (.int .i64 (n0 : Nat))) hF10 rfl rfl rfl rfl (rn_move (hF10.get rfl)) ?_)
  intro a20 hF21; clear hF10
  refine wpl_op (i := 1) rfl (o_val (v := (.bool (decide ((1 : Int) < ((n0 : Nat) : Int))))) hF21 rfl rfl rfl rfl (rn_gtr (hF21.get rfl) rfl) ?_)
  intro a22 hF23; clear hF21
  refine wpList_nil ?_
  refine hK19 _ _ ?_
  clear hK19
  by_cases hc24 : (1 : Int) < ((n0 : Nat) : Int)
  · skip
    refine wp_cond_true (c_true hF23 rfl (decide_eq_true hc24)) ?_
    refine wp_skip ?_
    refine hK18 _ _ ?_
    clear hK18
    refine wp_block ?_
    refine wp_seq_k (fun K25 hK25 => ?_)
    refine wp_region_lit ?_
    refine wpl_op (i := 0) rfl (o_val (v := (.int .i64 1)) hF23 rfl rfl rfl rfl (rn_assign rfl) ?_)
    intro a26 hF27; clear hF23
    refine wpList_nil ?_
    refine hK25 _ _ ?_
    clear hK25
    refine wp_seq_k (fun K28 hK28 => ?_)
    refine wp_block ?_
    refine wp_loop (fun a' W => ∃ (k : Nat) (j : Nat), Sl 28 [(0, (.int .i64 (a0 : Nat))), (1, (.int .i64 (n0 : Nat))), (4, (.int .i64 0)), (5, (.int .i64 (t : Nat))), (8, (.bool (decide ((1 : Int) < ((n0 : Nat) : Int))))), (6, (.int .i64 (k : Nat)))] a' ∧ k = 2 ^ j ∧ k < n0 ∧ 1 ≤ k ∧ Ext w W ∧ w9.heap.size ≤ W.heap.size) (fun a' _ => n0 - (intOf (a'.eval (.tmp 6))).toNat) ⟨1, 0, ((((((hF27.nil.cons (q_get hF27 (t := 6) rfl (by first | rfl | (congr 1; omega) | (congr 1; done)))).cons (q_get hF27 (t := 8) rfl rfl)).cons (q_get hF27 (t := 5) rfl rfl)).cons (q_get hF27 (t := 4) rfl rfl)).cons (q_get hF27 (t := 1) rfl rfl)).cons (q_get hF27 (t := 0) rfl rfl)), rfl, (by omega), (by omega), ((Ext.refl w).trans hx11), (Nat.le_refl _)⟩ ?_
    clear hF27
    rintro a29 w30 ⟨k, j, hF31, hp33, hp34, hp35, hx32, hf36⟩
    have hL37 := hF31
    have z38 := hx32.size
    refine wp_seq_k (fun K39 hK39 => ?_)
    refine wp_seq_k (fun K40 hK40 => ?_)
    refine wp_region_lit ?_
    refine wpl_op (i := 0) rfl (o_val (v := (.int .i64 (k : Nat))) hF31 rfl rfl rfl rfl (rn_move (hF31.get rfl)) ?_)
    intro a41 hF42; clear hF31
    refine wpl_op (i := 1) rfl (o_val (v := (.int .i64 (2 * k : Nat))) hF42 rfl rfl rfl rfl (rn_mulN (a := 2) (b := k) rfl (hF42.get rfl) (by omega)) ?_)
    intro a43 hF44; clear hF42
    refine wpl_op (i := 2) rfl (o_val (v := (.int .i64 (n0 : Nat))) hF44 rfl rfl rfl rfl (rn_move (hF44.get rfl)) ?_)
    intro a45 hF46; clear hF44
    refine wpl_op (i := 3) rfl (o_val (v := (.bool (decide (((2 * k : Nat) : Int) < ((n0 : Nat) : Int))))) hF46 rfl rfl rfl rfl (rn_lss (hF46.get rfl) (hF46.get rfl)) ?_)
    intro a47 hF48; clear hF46
    refine wpList_nil ?_
    refine hK40 _ _ ?_
    clear hK40
    by_cases hc49 : ((2 * k : Nat) : Int) < ((n0 : Nat) : Int)
    · skip
      refine wp_cond_true (c_true hF48 rfl (decide_eq_true hc49)) ?_
      refine wp_skip ?_
      refine hK39 _ _ ?_
      clear hK39
      refine wp_block ?_
      refine wp_region_lit ?_
      refine wpl_op (i := 0) rfl (o_val (v := (.int .i64 (k : Nat))) hF48 rfl rfl rfl rfl (rn_move (hF48.get rfl)) ?_)
      intro a50 hF51; clear hF48
      refine wpl_op (i := 1) rfl (o_val (v := (.int .i64 (k * 2 : Nat))) hF51 rfl rfl rfl rfl (rn_mulN (a := k) (b := 2) (hF51.get rfl) rfl (by omega)) ?_)
      intro a52 hF53; clear hF51
      refine wpl_op (i := 2) rfl (o_val (v := (.int .i64 (k * 2 : Nat))) hF53 rfl rfl rfl rfl (rn_assign (hF53.get rfl)) ?_)
      intro a54 hF55; clear hF53
      refine wpList_nil ?_
      refine ⟨⟨k * 2, (j + 1), ((((((hF55.nil.cons (q_get hF55 (t := 6) rfl (by first | rfl | (congr 1; omega) | (congr 1; done)))).cons (q_get hF55 (t := 8) rfl rfl)).cons (q_get hF55 (t := 5) rfl rfl)).cons (q_get hF55 (t := 4) rfl rfl)).cons (q_get hF55 (t := 1) rfl rfl)).cons (q_get hF55 (t := 0) rfl rfl)), (by rw [Nat.pow_succ]; omega), (by omega), (by omega), ((Ext.refl w).trans hx32), (by omega)⟩, ?_⟩
      rw [hF55.get (t := 6) rfl, hL37.get (t := 6) rfl]; simp [intOf] <;> omega
    · skip
      refine wp_cond_false (c_false hF48 rfl (decide_eq_false hc49)) ?_
      refine wp_exit ?_
      refine exit_then ?_
      refine exit_then ?_
      refine exit_here ?_
      refine hK28 _ _ ?_
      clear hK28
      refine wp_seq_k (fun K56 hK56 => ?_)
      refine wp_seq_k (fun K57 hK57 => ?_)
      have hkh : k = half n0 := half_unique j hp33 (by omega) (by omega)
      refine wp_region_lit ?_
      refine wpl_op (i := 0) rfl (o_val (v := (.int .i64 (a0 : Nat))) hF48 rfl rfl rfl rfl (rn_move (hF48.get rfl)) ?_)
      intro a58 hF59; clear hF48
      refine wpl_op (i := 1) rfl (o_val (v := (.int .i64 (k : Nat))) hF59 rfl rfl rfl rfl (rn_move (hF59.get rfl)) ?_)
      intro a60 hF61; clear hF59
      refine wpl_op (i := 2) rfl (o_val (v := (.bool (decide (((a0 : Nat) : Int) < ((k : Nat) : Int))))) hF61 rfl rfl rfl rfl (rn_lss (hF61.get rfl) (hF61.get rfl)) ?_)
      intro a62 hF63; clear hF61
      refine wpList_nil ?_
      refine hK57 _ _ ?_
      clear hK57
      have hF64 := ((((((((hF63.nil.cons (hF63.get (t := 17) (v := (.bool (decide (((a0 : Nat) : Int) < ((k : Nat) : Int))))) rfl)).cons (hF63.get (t := 12) (v := (.bool (decide (((2 * k : Nat) : Int) < ((n0 : Nat) : Int))))) rfl)).cons (hF63.get (t := 6) (v := (.int .i64 (k : Nat))) rfl)).cons (hF63.get (t := 8) (v := (.bool (decide ((1 : Int) < ((n0 : Nat) : Int))))) rfl)).cons (hF63.get (t := 5) (v := (.int .i64 (t : Nat))) rfl)).cons (hF63.get (t := 4) (v := (.int .i64 0)) rfl)).cons (hF63.get (t := 1) (v := (.int .i64 (n0 : Nat))) rfl)).cons (hF63.get (t := 0) (v := (.int .i64 (a0 : Nat))) rfl))
      clear hF63
      by_cases hc65 : ((a0 : Nat) : Int) < ((k : Nat) : Int)
      · skip
        refine wp_cond_true (c_true hF64 rfl (decide_eq_true hc65)) ?_
        refine wp_region_lit ?_
        refine wpl_op (i := 0) rfl (o_val (v := (.int .i64 (k : Nat))) hF64 rfl rfl rfl rfl (rn_move (hF64.get rfl)) ?_)
        intro a66 hF67; clear hF64
        refine wpl_op (i := 1) rfl (o_val (v := (.int .i64 (k : Nat))) hF67 rfl rfl rfl rfl (rn_assign (hF67.get rfl)) ?_)
        intro a68 hF69; clear hF67
        refine wpList_nil ?_
        refine hK56 _ _ ?_
        clear hK56
        refine wp_region_lit ?_
        refine wpl_op (i := 0) rfl (o_val (v := (.int .i64 (t : Nat))) hF69 rfl rfl rfl rfl (rn_move (hF69.get rfl)) ?_)
        intro a70 hF71; clear hF69
        refine wpl_op (i := 1) rfl (o_val (v := (.int .i64 (t + 1 : Nat))) hF71 rfl rfl rfl rfl (rn_addN (a := t) (b := 1) (hF71.get rfl) rfl (by omega)) ?_)
        intro a72 hF73; clear hF71
        refine wpl_op (i := 2) rfl (o_val (v := (.int .i64 (t + 1 : Nat))) hF73 rfl rfl rfl rfl (rn_assign (hF73.get rfl)) ?_)
        intro a74 hF75; clear hF73
        refine wpList_nil ?_
        refine ⟨⟨a0, k, (t + 1), ((((hF75.nil.cons (q_get hF75 (t := 5) rfl (by first | rfl | (congr 1; omega) | (congr 1; done)))).cons (q_get hF75 (t := 4) rfl rfl)).cons (q_get hF75 (t := 1) rfl (by first | rfl | (congr 1; omega) | (congr 1; done)))).cons (q_get hF75 (t := 0) rfl (by first | rfl | (congr 1; omega) | (congr 1; done)))), ⟨by omega, by omega⟩, (by have hq := hp13; rw [dirs_first (at_ := a0) (n := n0) (by omega) (by omega), List.length_cons, ← hkh] at hq; omega), (by omega), ((Ext.refl w).trans hx32), (by omega)⟩, ?_⟩
        rw [hF75.get (t := 1) rfl, hL16.get (t := 1) rfl]; simp [intOf] <;> omega
      · skip
        refine wp_cond_false (c_false hF64 rfl (decide_eq_false hc65)) ?_
        refine wp_region_lit ?_
        refine wpl_op (i := 0) rfl (o_val (v := (.int .i64 (a0 : Nat))) hF64 rfl rfl rfl rfl (rn_move (hF64.get rfl)) ?_)
        intro a76 hF77; clear hF64
        refine wpl_op (i := 1) rfl (o_val (v := (.int .i64 (k : Nat))) hF77 rfl rfl rfl rfl (rn_move (hF77.get rfl)) ?_)
        intro a78 hF79; clear hF77
        refine wpl_op (i := 2) rfl (o_val (v := (.int .i64 (a0 - k : Nat))) hF79 rfl rfl rfl rfl (rn_subN (a := a0) (b := k) (hF79.get rfl) (hF79.get rfl) (by omega) (by omega)) ?_)
        intro a80 hF81; clear hF79
        refine wpl_op (i := 3) rfl (o_val (v := (.int .i64 (n0 : Nat))) hF81 rfl rfl rfl rfl (rn_move (hF81.get rfl)) ?_)
        intro a82 hF83; clear hF81
        refine wpl_op (i := 4) rfl (o_val (v := (.int .i64 (k : Nat))) hF83 rfl rfl rfl rfl (rn_move (hF83.get rfl)) ?_)
        intro a84 hF85; clear hF83
        refine wpl_op (i := 5) rfl (o_val (v := (.int .i64 (n0 - k : Nat))) hF85 rfl rfl rfl rfl (rn_subN (a := n0) (b := k) (hF85.get rfl) (hF85.get rfl) (by omega) (by omega)) ?_)
        intro a86 hF87; clear hF85
        refine wpl_op (i := 6) rfl (o_val (v := (.int .i64 (a0 - k : Nat))) hF87 rfl rfl rfl rfl (rn_assign (hF87.get rfl)) ?_)
        intro a88 hF89; clear hF87
        refine wpl_op (i := 7) rfl (o_val (v := (.int .i64 (n0 - k : Nat))) hF89 rfl rfl rfl rfl (rn_assign (hF89.get rfl)) ?_)
        intro a90 hF91; clear hF89
        refine wpList_nil ?_
        refine hK56 _ _ ?_
        clear hK56
        have hF92 := ((((((((hF91.nil.cons (hF91.get (t := 17) (v := (.bool (decide (((a0 : Nat) : Int) < ((k : Nat) : Int))))) rfl)).cons (hF91.get (t := 12) (v := (.bool (decide (((2 * k : Nat) : Int) < ((n0 : Nat) : Int))))) rfl)).cons (hF91.get (t := 6) (v := (.int .i64 (k : Nat))) rfl)).cons (hF91.get (t := 8) (v := (.bool (decide ((1 : Int) < ((n0 : Nat) : Int))))) rfl)).cons (hF91.get (t := 5) (v := (.int .i64 (t : Nat))) rfl)).cons (hF91.get (t := 4) (v := (.int .i64 0)) rfl)).cons (hF91.get (t := 1) (v := (.int .i64 (n0 - k : Nat))) rfl)).cons (hF91.get (t := 0) (v := (.int .i64 (a0 - k : Nat))) rfl))
        clear hF91
        refine wp_region_lit ?_
        refine wpl_op (i := 0) rfl (o_val (v := (.int .i64 (t : Nat))) hF92 rfl rfl rfl rfl (rn_move (hF92.get rfl)) ?_)
        intro a93 hF94; clear hF92
        refine wpl_op (i := 1) rfl (o_val (v := (.int .i64 (t + 1 : Nat))) hF94 rfl rfl rfl rfl (rn_addN (a := t) (b := 1) (hF94.get rfl) rfl (by omega)) ?_)
        intro a95 hF96; clear hF94
        refine wpl_op (i := 2) rfl (o_val (v := (.int .i64 (t + 1 : Nat))) hF96 rfl rfl rfl rfl (rn_assign (hF96.get rfl)) ?_)
        intro a97 hF98; clear hF96
        refine wpList_nil ?_
        refine ⟨⟨a0 - k, n0 - k, (t + 1), ((((hF98.nil.cons (q_get hF98 (t := 5) rfl (by first | rfl | (congr 1; omega) | (congr 1; done)))).cons (q_get hF98 (t := 4) rfl rfl)).cons (q_get hF98 (t := 1) rfl (by first | rfl | (congr 1; omega) | (congr 1; done)))).cons (q_get hF98 (t := 0) rfl (by first | rfl | (congr 1; omega) | (congr 1; done)))), ⟨by omega, by omega⟩, (by have hq := hp13; rw [dirs_second (at_ := a0) (n := n0) (by omega) (by omega), List.length_cons, ← hkh] at hq; omega), (by omega), ((Ext.refl w).trans hx32), (by omega)⟩, ?_⟩
        rw [hF98.get (t := 1) rfl, hL16.get (t := 1) rfl]; simp [intOf] <;> omega
  · skip
    refine wp_cond_false (c_false hF23 rfl (decide_eq_false hc24)) ?_
    refine wp_exit ?_
    refine exit_then ?_
    refine exit_then ?_
    refine exit_here ?_
    refine hK7 _ _ ?_
    clear hK7
    refine wp_seq_k (fun K99 hK99 => ?_)
    refine wp_region_lit ?_
    refine wpl_op (i := 0) rfl (o_val (v := (.int .i64 (t : Nat))) hF23 rfl rfl rfl rfl (rn_move (hF23.get rfl)) ?_)
    intro a100 hF101; clear hF23
    refine wpl_op (i := 1) rfl (o_val (v := (.int .i64 (t : Nat))) hF101 rfl rfl rfl rfl (rn_assign (hF101.get rfl)) ?_)
    intro a102 hF103; clear hF101
    refine wpList_nil ?_
    refine hK99 _ _ ?_
    clear hK99
    refine wp_ret ?_
    refine ret1 hF103 rfl rfl ?_
    exact ⟨by rw [hp13, dirs_one (by omega)]; rfl, ((Ext.refl w).trans hx11)⟩

theorem steps_at (a n : Int) (w : World) (h0 : 0 ≤ a) (h1 : a < n) (h2 : n ≤ 4398046511104) : Calls Tryd.prog 23 #[.int .i64 a, .int .i64 n] w (fun e w' => e = .returned (.int .i64 ((dirs a.toNat n.toNat).length : Nat)) ∧ Ext w w') := by
  obtain ⟨an, rfl⟩ : ∃ an : Nat, a = (an : Int) := ⟨a.toNat, by omega⟩
  obtain ⟨nn, rfl⟩ : ∃ nn : Nat, n = (nn : Int) := ⟨n.toNat, by omega⟩
  exact steps_any an nn w (by omega) (by omega)

end Go.Proofs.YtgodliookpgliaaDoor
