/- Contracts of the laws' sane, digestsOf, steps. -/
import Derived.Test.YtgodliookpgliaaDoorProg
import Derived.Test.YtgodliookpgliaaDoorDigK
import Derived.Test.YtgodliookpgliaaDoorSeq3
import Derived.KernelRfl
namespace Go.Proofs.YtgodliookpgliaaDoor
open Go.RowKit

variable {S S' : Nat → Prop}

theorem abc4 : (bsum [97, 98, 99]).getD 0 0 = 80 ∧ (bsum [97, 98, 99]).getD 1 0 = 140 ∧ (bsum [97, 98, 99]).getD 2 0 = 94 ∧ (bsum [97, 98, 99]).getD 3 0 = 140 ∧ (bsum []).getD 0 0 = 105 ∧ (bsum []).getD 1 0 = 33 ∧ (bsum []).getD 2 0 = 122 ∧ (bsum []).getD 3 0 = 48 := by decide +kernel
def d1 : List UInt8 := [1, 0, 0, 0, 0, 0, 0, 0, 0, 0, 0, 0, 0, 0, 0, 0, 0, 0, 0, 0, 0, 0, 0, 0, 0, 0, 0, 0, 0, 0, 0, 0]
theorem climb_sane (d : List UInt8) : (climbF d 0 2 []).2 = 1 := by
  rw [climbF, if_pos]
  refine .inr ?_
  rw [show (2 : Int).toNat = 2 from rfl, show (0 : Int).toNat = 0 from rfl, dirs_first (by omega) (half_pos 2)]
  simp
theorem climb_sane1 (d : List UInt8) : climbF d 0 1 [] = (leafD d, 0) := by
  have h : dirs (0 : Int).toNat (1 : Int).toNat = [] := dirs_one (by decide)
  rw [climbF, if_neg (by rw [h]; simp), climb_one' (by decide)]
theorem tree_sane (d : List UInt8) : treeD [d] = leafD d := tree_one' (l := [d]) rfl
theorem path_sane : (pathF [] 0).2 = 1 := by rw [pathF, if_pos (by simp)]
def dOf (x : UInt8) (i : Nat) : List UInt8 := [x % 4, UInt8.ofNat (i / 8), 0, 0, 0, 0, 0, 0, 0, 0, 0, 0, 0, 0, 0, 0, 0, 0, 0, 0, 0, 0, 0, 0, 0, 0, 0, 0, 0, 0, 0, 0]
def digsTo (s : List UInt8) (k : Nat) : List (List UInt8) := (List.range k).map fun i => dOf (s.getD i 0) i
def digsOf (s : List UInt8) : List (List UInt8) := digsTo s (min s.length 24)
theorem digsTo_32 (s : List UInt8) (k : Nat) : All32 (digsTo s k) := fun x hx => by
  simp only [digsTo, List.mem_map] at hx
  obtain ⟨i, _, rfl⟩ := hx
  rfl
theorem digsOf_32 (s : List UInt8) : All32 (digsOf s) := digsTo_32 _ _
theorem digsOf_len (s : List UInt8) : (digsOf s).length = min s.length 24 := by simp [digsOf, digsTo]
theorem digsTo_step {s : List UInt8} {k : Nat} {l : List (List UInt8)} (h : l = digsTo s k) : l ++ [[(s.getD k 0) % 4, UInt8.ofNat (k / 8), 0, 0, 0, 0, 0, 0, 0, 0, 0, 0, 0, 0, 0, 0, 0, 0, 0, 0, 0, 0, 0, 0, 0, 0, 0, 0, 0, 0, 0, 0]] = digsTo s (k + 1) := by
  rw [h, digsTo, digsTo, List.range_succ, List.map_append]; rfl

set_option maxRecDepth 100000 in
set_option maxHeartbeats 1000000 in
theorem sane_any (w : World) (hG : Glob w) :
    Calls Tryd.prog 10 #[] w (fun e w' => e = .returned (.bool true) ∧ Ext w w') := by
  refine calls_enter (l := []) Tryd.func10 rfl rfl rfl (fun aA hF => ?_)
  refine wp_seq_k (fun K1 hK1 => ?_)
  refine wp_region_lit ?_
  refine wpl_op (i := 0) rfl (o_val (v := (.bool false)) hF rfl rfl rfl rfl (rn_assign rfl) ?_)
  intro a2 hF3; clear hF
  refine wpList_nil ?_
  refine hK1 _ _ ?_
  clear hK1
  refine wp_seq_k (fun K4 hK4 => ?_)
  refine wp_region_lit ?_
  refine wpl_op (i := 0) rfl (o_new (fun g => (.slice (some ⟨g, 0, none⟩) 3 3)) [(.int .u8 97), (.int .u8 98), (.int .u8 99)] 5 hF3 rfl rfl rfl rfl (rn_buildSlice (parts3 rfl rfl rfl) (by kernel_rfl)) ?_)
  intro g5 w6 a11 hF12 z9 z10 b7 hx8; clear hF3
  refine wpl_op (i := 1) rfl (o_mark (l := [(97 : UInt8), (98 : UInt8), (99 : UInt8)]) hF12 rfl rfl rfl rfl rfl (hF12.get rfl) Tryd.underlying22 Tryd.underlying5 b7 rfl (by omega) (by omega) ?_)
  intro w13 a16 hF17 hf14 hg15; clear hF12; have z18 := hg15.size
  refine wpl_op (i := 2) rfl (o_call hF17 rfl rfl rfl rfl (rn_call (args1 (hF17.get rfl)) rfl (by kernel_rfl)) (sum_at (v := (.slice (some ⟨g5, 0, none⟩) 3 3)) (n := 3) ([(97 : UInt8), (98 : UInt8), (99 : UInt8)]) _ hf14 (hG.ext (((Ext.refl w).trans hx8).grownN hg15 (by omega)))) ?_)
  rintro _ w19 ⟨rfl, hx20⟩
  refine ⟨_, rfl, ?_⟩; intro a21 hF22; clear hF17; have z23 := hx20.size
  refine wpl_op (i := 3) rfl (o_call hF22 rfl rfl rfl rfl (rn_call (args1 rfl) rfl (by kernel_rfl)) (sum_at (v := (.slice none 0 0)) (n := 0) ([]) _ (show Fl (fun _ => False) w19 1 (.slice none 0 0) 0 (byteVals []) from Fl.nil _) (hG.ext ((((Ext.refl w).trans hx8).grownN hg15 (by omega)).trans hx20))) ?_)
  rintro _ w24 ⟨rfl, hx25⟩
  refine ⟨_, rfl, ?_⟩; intro a26 hF27; clear hF22; have z28 := hx25.size
  refine wpl_op (i := 4) rfl (o_new (fun g => (.pointer (some ⟨g, 0, none⟩))) (byteVals (List.replicate 32 0)) 26 hF27 rfl rfl rfl rfl (by kernel_rfl) ?_)
  intro g29 w30 a35 hF36 z33 z34 b31 hx32; clear hF27
  refine wpl_op (i := 5) rfl (o_new (fun g => (.pointer (some ⟨g, 0, none⟩))) (byteVals (List.replicate 32 0)) 26 hF36 rfl rfl rfl rfl (by kernel_rfl) ?_)
  intro g37 w38 a43 hF44 z41 z42 b39 hx40; clear hF36
  have b48 : Blk w38 g29 26 (byteVals (List.replicate 32 0)) := (b31.ext hx40)
  refine wpl_op (i := 6) rfl (o_store (cells := (byteVals (bsum ([(97 : UInt8), (98 : UInt8), (99 : UInt8)])))) hF44 rfl rfl rfl rfl (hF44.get rfl) (hF44.get rfl) b48 ((by kernel_rfl : (Tryd.prog.info? 26).map (·.size) = some 32).trans (congrArg some (byteVals_len (bsum_len _)).symm)) ((byteVals_len (show List.length (List.replicate 32 0) = _ from List.length_replicate)).trans (byteVals_len (bsum_len _)).symm) (byteVals_one _) ?_)
  intro w45 b46 hg47; have z49 := hg47.size
  have b53 : Blk w45 g37 26 (byteVals (List.replicate 32 0)) := (b39.grownN hg47 (by omega))
  refine wpl_op (i := 7) rfl (o_store (cells := (byteVals (bsum ([])))) hF44 rfl rfl rfl rfl (hF44.get rfl) (hF44.get rfl) b53 ((by kernel_rfl : (Tryd.prog.info? 26).map (·.size) = some 32).trans (congrArg some (byteVals_len (bsum_len _)).symm)) ((byteVals_len (show List.length (List.replicate 32 0) = _ from List.length_replicate)).trans (byteVals_len (bsum_len _)).symm) (byteVals_one _) ?_)
  intro w50 b51 hg52; have z54 := hg52.size
  refine wpList_nil ?_
  refine hK4 _ _ ?_
  clear hK4
  have hF55 := (((hF44.nil.cons (hF44.get (t := 2) (v := (.pointer (some ⟨g37, 0, none⟩))) rfl)).cons (hF44.get (t := 1) (v := (.pointer (some ⟨g29, 0, none⟩))) rfl)).cons (hF44.get (t := 0) (v := (.bool false)) rfl))
  clear hF44
  refine wp_seq_k (fun K56 hK56 => ?_)
  refine wp_region_lit ?_
  refine wpl_op (i := 0) rfl (o_call hF55 rfl rfl rfl rfl (rn_call (args2 rfl rfl) rfl (by kernel_rfl)) (path_at ([]) 0 _ (v := (.slice none 0 0)) (n := 0) All32.nil (show Fl (fun _ => False) w50 32 (.slice none 0 0) 0 (digVals []) from Fl.nil _) (hG.ext (((((((((Ext.refl w).trans hx8).grownN hg15 (by omega)).trans hx20).trans hx25).trans hx32).trans hx40).grownN hg47 (by omega)).grownN hg52 (by omega))) (by omega)) ?_)
  rintro _ w64 ⟨A57, n58, c59, rfl, hf60, h3261, hx65⟩
  have z62 := (Fl.cel hf60).2.1
  have z63 := Fl.dlen hf60 h3261
  refine ⟨_, rfl, ?_⟩; intro a66 hF67; clear hF55; have z68 := hx65.size
  refine wpl_op (i := 1) rfl (o_val (v := (.tuple #[(.slice A57 n58 c59), (.int .i64 ((pathF ([]) 0).2))])) hF67 rfl rfl rfl rfl (rn_move (hF67.get rfl)) ?_)
  intro a69 hF70; clear hF67
  refine wpl_op (i := 2) rfl (o_val (v := (.slice A57 n58 c59)) hF70 rfl rfl rfl rfl (rn_extract (hF70.get rfl) rfl) ?_)
  intro a71 hF72; clear hF70
  refine wpl_op (i := 3) rfl (o_val (v := (.int .i64 ((pathF ([]) 0).2))) hF72 rfl rfl rfl rfl (rn_extract (hF72.get rfl) rfl) ?_)
  intro a73 hF74; clear hF72
  refine wpl_op (i := 4) rfl (o_val (v := (.slice A57 n58 c59)) hF74 rfl rfl rfl rfl (rn_assign (hF74.get rfl)) ?_)
  intro a75 hF76; clear hF74
  refine wpl_op (i := 5) rfl (o_val (v := (.int .i64 ((pathF ([]) 0).2))) hF76 rfl rfl rfl rfl (rn_assign (hF76.get rfl)) ?_)
  intro a77 hF78; clear hF76
  refine wpList_nil ?_
  refine hK56 _ _ ?_
  clear hK56
  have hF79 := ((((hF78.nil.cons (hF78.get (t := 4) (v := (.int .i64 ((pathF ([]) 0).2))) rfl)).cons (hF78.get (t := 2) (v := (.pointer (some ⟨g37, 0, none⟩))) rfl)).cons (hF78.get (t := 1) (v := (.pointer (some ⟨g29, 0, none⟩))) rfl)).cons (hF78.get (t := 0) (v := (.bool false)) rfl))
  clear hF78
  refine wp_seq_k (fun K80 hK80 => ?_)
  refine wp_region_lit ?_
  refine wpl_op (i := 0) rfl (o_val (v := (.agg (byteVals (List.replicate 32 0)).toArray)) hF79 rfl rfl rfl rfl (rn_build parts0 (by kernel_rfl)) ?_)
  intro a81 hF82; clear hF79
  refine wpl_op (i := 1) rfl (o_call hF82 rfl rfl rfl rfl (rn_call (args4 (hF82.get rfl) rfl rfl rfl) rfl (by kernel_rfl)) (climb_at (List.replicate 32 0) 0 2 ([]) _ (v := (.slice none 0 0)) (m := 0) (show List.length (List.replicate 32 0) = _ from List.length_replicate) All32.nil (show Fl (fun _ => False) w64 32 (.slice none 0 0) 0 (digVals []) from Fl.nil _) (hG.ext ((((((((((Ext.refl w).trans hx8).grownN hg15 (by omega)).trans hx20).trans hx25).trans hx32).trans hx40).grownN hg47 (by omega)).grownN hg52 (by omega)).trans hx65))) ?_)
  rintro _ w83 ⟨rfl, hx84⟩
  refine ⟨_, rfl, ?_⟩; intro a85 hF86; clear hF82; have z87 := hx84.size
  refine wpl_op (i := 2) rfl (o_val (v := (.tuple #[(.agg (byteVals ((climbF (List.replicate 32 0) 0 2 ([])).1)).toArray), (.int .i64 ((climbF (List.replicate 32 0) 0 2 ([])).2))])) hF86 rfl rfl rfl rfl (rn_move (hF86.get rfl)) ?_)
  intro a88 hF89; clear hF86
  refine wpl_op (i := 3) rfl (o_val (v := (.agg (byteVals ((climbF (List.replicate 32 0) 0 2 ([])).1)).toArray)) hF89 rfl rfl rfl rfl (rn_extract (hF89.get rfl) rfl) ?_)
  intro a90 hF91; clear hF89
  refine wpl_op (i := 4) rfl (o_val (v := (.int .i64 ((climbF (List.replicate 32 0) 0 2 ([])).2))) hF91 rfl rfl rfl rfl (rn_extract (hF91.get rfl) rfl) ?_)
  intro a92 hF93; clear hF91
  refine wpl_op (i := 5) rfl (o_new (fun g => (.pointer (some ⟨g, 0, none⟩))) (byteVals (List.replicate 32 0)) 26 hF93 rfl rfl rfl rfl (by kernel_rfl) ?_)
  intro g94 w95 a100 hF101 z98 z99 b96 hx97; clear hF93
  refine wpl_op (i := 6) rfl (o_store (cells := (byteVals ((climbF (List.replicate 32 0) 0 2 ([])).1))) hF101 rfl rfl rfl rfl (hF101.get rfl) (hF101.get rfl) b96 ((by kernel_rfl : (Tryd.prog.info? 26).map (·.size) = some 32).trans (congrArg some (byteVals_len (climbF_len _ _ _ _)).symm)) ((byteVals_len (show List.length (List.replicate 32 0) = _ from List.length_replicate)).trans (byteVals_len (climbF_len _ _ _ _)).symm) (byteVals_one _) ?_)
  intro w102 b103 hg104; have z105 := hg104.size
  refine wpl_op (i := 7) rfl (o_val (v := (.int .i64 ((climbF (List.replicate 32 0) 0 2 ([])).2))) hF101 rfl rfl rfl rfl (rn_assign (hF101.get rfl)) ?_)
  intro a106 hF107; clear hF101
  refine wpList_nil ?_
  refine hK80 _ _ ?_
  clear hK80
  have hF108 := (((((hF107.nil.cons (hF107.get (t := 6) (v := (.int .i64 ((climbF (List.replicate 32 0) 0 2 ([])).2))) rfl)).cons (hF107.get (t := 4) (v := (.int .i64 ((pathF ([]) 0).2))) rfl)).cons (hF107.get (t := 2) (v := (.pointer (some ⟨g37, 0, none⟩))) rfl)).cons (hF107.get (t := 1) (v := (.pointer (some ⟨g29, 0, none⟩))) rfl)).cons (hF107.get (t := 0) (v := (.bool false)) rfl))
  clear hF107
  refine wp_seq_k (fun K109 hK109 => ?_)
  refine wp_region_lit ?_
  refine wpl_op (i := 0) rfl (o_val (v := (.agg (byteVals ([(1 : UInt8), 0, 0, 0, 0, 0, 0, 0, 0, 0, 0, 0, 0, 0, 0, 0, 0, 0, 0, 0, 0, 0, 0, 0, 0, 0, 0, 0, 0, 0, 0, 0])).toArray)) hF108 rfl rfl rfl rfl (rn_build (parts1 rfl) (by kernel_rfl)) ?_)
  intro a110 hF111; clear hF108
  refine wpl_op (i := 1) rfl (o_call hF111 rfl rfl rfl rfl (rn_call (args4 (hF111.get rfl) rfl rfl rfl) rfl (by kernel_rfl)) (climb_at ([(1 : UInt8), 0, 0, 0, 0, 0, 0, 0, 0, 0, 0, 0, 0, 0, 0, 0, 0, 0, 0, 0, 0, 0, 0, 0, 0, 0, 0, 0, 0, 0, 0, 0]) 0 1 ([]) _ (v := (.slice none 0 0)) (m := 0) (show List.length [(1 : UInt8), 0, 0, 0, 0, 0, 0, 0, 0, 0, 0, 0, 0, 0, 0, 0, 0, 0, 0, 0, 0, 0, 0, 0, 0, 0, 0, 0, 0, 0, 0, 0] = 32 from rfl) All32.nil (show Fl (fun _ => False) w102 32 (.slice none 0 0) 0 (digVals []) from Fl.nil _) (hG.ext (((((((((((((Ext.refl w).trans hx8).grownN hg15 (by omega)).trans hx20).trans hx25).trans hx32).trans hx40).grownN hg47 (by omega)).grownN hg52 (by omega)).trans hx65).trans hx84).trans hx97).grownN hg104 (by omega)))) ?_)
  rintro _ w112 ⟨rfl, hx113⟩
  refine ⟨_, rfl, ?_⟩; intro a114 hF115; clear hF111; have z116 := hx113.size
  refine wpl_op (i := 2) rfl (o_val (v := (.tuple #[(.agg (byteVals ((climbF ([(1 : UInt8), 0, 0, 0, 0, 0, 0, 0, 0, 0, 0, 0, 0, 0, 0, 0, 0, 0, 0, 0, 0, 0, 0, 0, 0, 0, 0, 0, 0, 0, 0, 0]) 0 1 ([])).1)).toArray), (.int .i64 ((climbF ([(1 : UInt8), 0, 0, 0, 0, 0, 0, 0, 0, 0, 0, 0, 0, 0, 0, 0, 0, 0, 0, 0, 0, 0, 0, 0, 0, 0, 0, 0, 0, 0, 0, 0]) 0 1 ([])).2))])) hF115 rfl rfl rfl rfl (rn_move (hF115.get rfl)) ?_)
  intro a117 hF118; clear hF115
  refine wpl_op (i := 3) rfl (o_val (v := (.agg (byteVals ((climbF ([(1 : UInt8), 0, 0, 0, 0, 0, 0, 0, 0, 0, 0, 0, 0, 0, 0, 0, 0, 0, 0, 0, 0, 0, 0, 0, 0, 0, 0, 0, 0, 0, 0, 0]) 0 1 ([])).1)).toArray)) hF118 rfl rfl rfl rfl (rn_extract (hF118.get rfl) rfl) ?_)
  intro a119 hF120; clear hF118
  refine wpl_op (i := 4) rfl (o_val (v := (.int .i64 ((climbF ([(1 : UInt8), 0, 0, 0, 0, 0, 0, 0, 0, 0, 0, 0, 0, 0, 0, 0, 0, 0, 0, 0, 0, 0, 0, 0, 0, 0, 0, 0, 0, 0, 0, 0]) 0 1 ([])).2))) hF120 rfl rfl rfl rfl (rn_extract (hF120.get rfl) rfl) ?_)
  intro a121 hF122; clear hF120
  refine wpl_op (i := 5) rfl (o_new (fun g => (.pointer (some ⟨g, 0, none⟩))) (byteVals (List.replicate 32 0)) 26 hF122 rfl rfl rfl rfl (by kernel_rfl) ?_)
  intro g123 w124 a129 hF130 z127 z128 b125 hx126; clear hF122
  refine wpl_op (i := 6) rfl (o_store (cells := (byteVals ((climbF ([(1 : UInt8), 0, 0, 0, 0, 0, 0, 0, 0, 0, 0, 0, 0, 0, 0, 0, 0, 0, 0, 0, 0, 0, 0, 0, 0, 0, 0, 0, 0, 0, 0, 0]) 0 1 ([])).1))) hF130 rfl rfl rfl rfl (hF130.get rfl) (hF130.get rfl) b125 ((by kernel_rfl : (Tryd.prog.info? 26).map (·.size) = some 32).trans (congrArg some (byteVals_len (climbF_len _ _ _ _)).symm)) ((byteVals_len (show List.length (List.replicate 32 0) = _ from List.length_replicate)).trans (byteVals_len (climbF_len _ _ _ _)).symm) (byteVals_one _) ?_)
  intro w131 b132 hg133; have z134 := hg133.size
  refine wpl_op (i := 7) rfl (o_val (v := (.int .i64 ((climbF ([(1 : UInt8), 0, 0, 0, 0, 0, 0, 0, 0, 0, 0, 0, 0, 0, 0, 0, 0, 0, 0, 0, 0, 0, 0, 0, 0, 0, 0, 0, 0, 0, 0, 0]) 0 1 ([])).2))) hF130 rfl rfl rfl rfl (rn_assign (hF130.get rfl)) ?_)
  intro a135 hF136; clear hF130
  refine wpList_nil ?_
  refine hK109 _ _ ?_
  clear hK109
  have hF137 := (((((((hF136.nil.cons (hF136.get (t := 8) (v := (.int .i64 ((climbF ([(1 : UInt8), 0, 0, 0, 0, 0, 0, 0, 0, 0, 0, 0, 0, 0, 0, 0, 0, 0, 0, 0, 0, 0, 0, 0, 0, 0, 0, 0, 0, 0, 0, 0]) 0 1 ([])).2))) rfl)).cons (hF136.get (t := 7) (v := (.pointer (some ⟨g123, 0, none⟩))) rfl)).cons (hF136.get (t := 6) (v := (.int .i64 ((climbF (List.replicate 32 0) 0 2 ([])).2))) rfl)).cons (hF136.get (t := 4) (v := (.int .i64 ((pathF ([]) 0).2))) rfl)).cons (hF136.get (t := 2) (v := (.pointer (some ⟨g37, 0, none⟩))) rfl)).cons (hF136.get (t := 1) (v := (.pointer (some ⟨g29, 0, none⟩))) rfl)).cons (hF136.get (t := 0) (v := (.bool false)) rfl))
  clear hF136
  refine wp_seq_k (fun K138 hK138 => ?_)
  refine wp_region_lit ?_
  refine wpl_op (i := 0) rfl (o_val (v := (.pointer (some ⟨g29, 0 + 0, none⟩))) hF137 rfl rfl rfl rfl (rn_indexArr Tryd.underlying26 (by kernel_rfl : (Tryd.prog.info? 5).map (·.size) = some 1) (hF137.get rfl) rfl (by omega : (0 : Int) ≤ 0) (by omega : (0 : Int) < ((32 : Nat) : Int))) ?_)
  intro a139 hF140; clear hF137
  have b141 : Blk w131 g29 26 (byteVals (bsum ([(97 : UInt8), (98 : UInt8), (99 : UInt8)]))) := ((((((((b46.grownN hg52 (by omega)).ext hx65).ext hx84).ext hx97).grownN hg104 (by omega)).ext hx113).ext hx126).grownN hg133 (by omega))
  refine wpl_op (i := 1) rfl (o_val (v := (.int .u8 (((bsum ([(97 : UInt8), (98 : UInt8), (99 : UInt8)])).getD 0 0).toNat : Nat))) hF140 rfl rfl rfl rfl (rn_load (isAgg_no Tryd.underlying5 rfl) (hF140.get rfl) (blk_byte b141 (by omega) (by have := (show List.length (bsum ([(97 : UInt8), (98 : UInt8), (99 : UInt8)])) = _ from (bsum_len _)); omega))) ?_)
  intro a142 hF143; clear hF140
  refine wpl_op (i := 2) rfl (o_val (v := (.bool (decide (((((bsum ([(97 : UInt8), (98 : UInt8), (99 : UInt8)])).getD 0 0).toNat : Nat) : Int) = (80 : Int))))) hF143 rfl rfl rfl rfl (rn_eql (hF143.get rfl) rfl) ?_)
  intro a144 hF145; clear hF143
  refine wpl_op (i := 3) rfl (o_val (v := (.bool (decide (((((bsum ([(97 : UInt8), (98 : UInt8), (99 : UInt8)])).getD 0 0).toNat : Nat) : Int) = (80 : Int))))) hF145 rfl rfl rfl rfl (rn_move (hF145.get rfl)) ?_)
  intro a146 hF147; clear hF145
  refine wpl_op (i := 4) rfl (o_val (v := (.pointer (some ⟨g29, 0 + 1, none⟩))) hF147 rfl (wanted_guard rfl rfl rfl hF147 rfl ((decide_eq_true (by have h := abc4; simp only [h]; rfl)) : decide (((((bsum ([(97 : UInt8), (98 : UInt8), (99 : UInt8)])).getD 0 0).toNat : Nat) : Int) = (80 : Int)) = true) rfl) rfl rfl (rn_indexArr Tryd.underlying26 (by kernel_rfl : (Tryd.prog.info? 5).map (·.size) = some 1) (hF147.get rfl) rfl (by omega : (0 : Int) ≤ 1) (by omega : (1 : Int) < ((32 : Nat) : Int))) ?_)
  intro a149 hF150; clear hF147
  refine wpl_op (i := 5) rfl (o_val (v := (.int .u8 (((bsum ([(97 : UInt8), (98 : UInt8), (99 : UInt8)])).getD 1 0).toNat : Nat))) hF150 rfl (wanted_guard rfl rfl rfl hF150 rfl ((decide_eq_true (by have h := abc4; simp only [h]; rfl)) : decide (((((bsum ([(97 : UInt8), (98 : UInt8), (99 : UInt8)])).getD 0 0).toNat : Nat) : Int) = (80 : Int)) = true) rfl) rfl rfl (rn_load (isAgg_no Tryd.underlying5 rfl) (hF150.get rfl) (blk_byte b141 (by omega) (by have := (show List.length (bsum ([(97 : UInt8), (98 : UInt8), (99 : UInt8)])) = _ from (bsum_len _)); omega))) ?_)
  intro a151 hF152; clear hF150
  refine wpl_op (i := 6) rfl (o_val (v := (.bool (decide (((((bsum ([(97 : UInt8), (98 : UInt8), (99 : UInt8)])).getD 1 0).toNat : Nat) : Int) = (140 : Int))))) hF152 rfl (wanted_guard rfl rfl rfl hF152 rfl ((decide_eq_true (by have h := abc4; simp only [h]; rfl)) : decide (((((bsum ([(97 : UInt8), (98 : UInt8), (99 : UInt8)])).getD 0 0).toNat : Nat) : Int) = (80 : Int)) = true) rfl) rfl rfl (rn_eql (hF152.get rfl) rfl) ?_)
  intro a153 hF154; clear hF152
  refine wpl_op (i := 7) rfl (o_val (v := (.bool (decide (((((bsum ([(97 : UInt8), (98 : UInt8), (99 : UInt8)])).getD 1 0).toNat : Nat) : Int) = (140 : Int))))) hF154 rfl rfl rfl rfl (rn_pickT (c_true hF154 rfl ((decide_eq_true (by have h := abc4; simp only [h]; rfl)) : decide (((((bsum ([(97 : UInt8), (98 : UInt8), (99 : UInt8)])).getD 0 0).toNat : Nat) : Int) = (80 : Int)) = true)) (hF154.get rfl)) ?_)
  intro a155 hF156; clear hF154
  refine wpl_op (i := 8) rfl (o_val (v := (.bool (decide (((((bsum ([(97 : UInt8), (98 : UInt8), (99 : UInt8)])).getD 1 0).toNat : Nat) : Int) = (140 : Int))))) hF156 rfl rfl rfl rfl (rn_move (hF156.get rfl)) ?_)
  intro a157 hF158; clear hF156
  refine wpl_op (i := 9) rfl (o_val (v := (.pointer (some ⟨g29, 0 + 2, none⟩))) hF158 rfl (wanted_guard rfl rfl rfl hF158 rfl ((decide_eq_true (by have h := abc4; simp only [h]; rfl)) : decide (((((bsum ([(97 : UInt8), (98 : UInt8), (99 : UInt8)])).getD 1 0).toNat : Nat) : Int) = (140 : Int)) = true) rfl) rfl rfl (rn_indexArr Tryd.underlying26 (by kernel_rfl : (Tryd.prog.info? 5).map (·.size) = some 1) (hF158.get rfl) rfl (by omega : (0 : Int) ≤ 2) (by omega : (2 : Int) < ((32 : Nat) : Int))) ?_)
  intro a160 hF161; clear hF158
  refine wpl_op (i := 10) rfl (o_val (v := (.int .u8 (((bsum ([(97 : UInt8), (98 : UInt8), (99 : UInt8)])).getD 2 0).toNat : Nat))) hF161 rfl (wanted_guard rfl rfl rfl hF161 rfl ((decide_eq_true (by have h := abc4; simp only [h]; rfl)) : decide (((((bsum ([(97 : UInt8), (98 : UInt8), (99 : UInt8)])).getD 1 0).toNat : Nat) : Int) = (140 : Int)) = true) rfl) rfl rfl (rn_load (isAgg_no Tryd.underlying5 rfl) (hF161.get rfl) (blk_byte b141 (by omega) (by have := (show List.length (bsum ([(97 : UInt8), (98 : UInt8), (99 : UInt8)])) = _ from (bsum_len _)); omega))) ?_)
  intro a162 hF163; clear hF161
  refine wpl_op (i := 11) rfl (o_val (v := (.bool (decide (((((bsum ([(97 : UInt8), (98 : UInt8), (99 : UInt8)])).getD 2 0).toNat : Nat) : Int) = (94 : Int))))) hF163 rfl (wanted_guard rfl rfl rfl hF163 rfl ((decide_eq_true (by have h := abc4; simp only [h]; rfl)) : decide (((((bsum ([(97 : UInt8), (98 : UInt8), (99 : UInt8)])).getD 1 0).toNat : Nat) : Int) = (140 : Int)) = true) rfl) rfl rfl (rn_eql (hF163.get rfl) rfl) ?_)
  intro a164 hF165; clear hF163
  refine wpl_op (i := 12) rfl (o_val (v := (.bool (decide (((((bsum ([(97 : UInt8), (98 : UInt8), (99 : UInt8)])).getD 2 0).toNat : Nat) : Int) = (94 : Int))))) hF165 rfl rfl rfl rfl (rn_pickT (c_true hF165 rfl ((decide_eq_true (by have h := abc4; simp only [h]; rfl)) : decide (((((bsum ([(97 : UInt8), (98 : UInt8), (99 : UInt8)])).getD 1 0).toNat : Nat) : Int) = (140 : Int)) = true)) (hF165.get rfl)) ?_)
  intro a166 hF167; clear hF165
  refine wpl_op (i := 13) rfl (o_val (v := (.bool (decide (((((bsum ([(97 : UInt8), (98 : UInt8), (99 : UInt8)])).getD 2 0).toNat : Nat) : Int) = (94 : Int))))) hF167 rfl rfl rfl rfl (rn_move (hF167.get rfl)) ?_)
  intro a168 hF169; clear hF167
  refine wpl_op (i := 14) rfl (o_val (v := (.pointer (some ⟨g29, 0 + 3, none⟩))) hF169 rfl (wanted_guard rfl rfl rfl hF169 rfl ((decide_eq_true (by have h := abc4; simp only [h]; rfl)) : decide (((((bsum ([(97 : UInt8), (98 : UInt8), (99 : UInt8)])).getD 2 0).toNat : Nat) : Int) = (94 : Int)) = true) rfl) rfl rfl (rn_indexArr Tryd.underlying26 (by kernel_rfl : (Tryd.prog.info? 5).map (·.size) = some 1) (hF169.get rfl) rfl (by omega : (0 : Int) ≤ 3) (by omega : (3 : Int) < ((32 : Nat) : Int))) ?_)
  intro a171 hF172; clear hF169
  refine wpl_op (i := 15) rfl (o_val (v := (.int .u8 (((bsum ([(97 : UInt8), (98 : UInt8), (99 : UInt8)])).getD 3 0).toNat : Nat))) hF172 rfl (wanted_guard rfl rfl rfl hF172 rfl ((decide_eq_true (by have h := abc4; simp only [h]; rfl)) : decide (((((bsum ([(97 : UInt8), (98 : UInt8), (99 : UInt8)])).getD 2 0).toNat : Nat) : Int) = (94 : Int)) = true) rfl) rfl rfl (rn_load (isAgg_no Tryd.underlying5 rfl) (hF172.get rfl) (blk_byte b141 (by omega) (by have := (show List.length (bsum ([(97 : UInt8), (98 : UInt8), (99 : UInt8)])) = _ from (bsum_len _)); omega))) ?_)
  intro a173 hF174; clear hF172
  refine wpl_op (i := 16) rfl (o_val (v := (.bool (decide (((((bsum ([(97 : UInt8), (98 : UInt8), (99 : UInt8)])).getD 3 0).toNat : Nat) : Int) = (140 : Int))))) hF174 rfl (wanted_guard rfl rfl rfl hF174 rfl ((decide_eq_true (by have h := abc4; simp only [h]; rfl)) : decide (((((bsum ([(97 : UInt8), (98 : UInt8), (99 : UInt8)])).getD 2 0).toNat : Nat) : Int) = (94 : Int)) = true) rfl) rfl rfl (rn_eql (hF174.get rfl) rfl) ?_)
  intro a175 hF176; clear hF174
  refine wpl_op (i := 17) rfl (o_val (v := (.bool (decide (((((bsum ([(97 : UInt8), (98 : UInt8), (99 : UInt8)])).getD 3 0).toNat : Nat) : Int) = (140 : Int))))) hF176 rfl rfl rfl rfl (rn_pickT (c_true hF176 rfl ((decide_eq_true (by have h := abc4; simp only [h]; rfl)) : decide (((((bsum ([(97 : UInt8), (98 : UInt8), (99 : UInt8)])).getD 2 0).toNat : Nat) : Int) = (94 : Int)) = true)) (hF176.get rfl)) ?_)
  intro a177 hF178; clear hF176
  refine wpl_op (i := 18) rfl (o_val (v := (.bool (decide (((((bsum ([(97 : UInt8), (98 : UInt8), (99 : UInt8)])).getD 3 0).toNat : Nat) : Int) = (140 : Int))))) hF178 rfl rfl rfl rfl (rn_move (hF178.get rfl)) ?_)
  intro a179 hF180; clear hF178
  refine wpl_op (i := 19) rfl (o_val (v := (.pointer (some ⟨g37, 0 + 0, none⟩))) hF180 rfl (wanted_guard rfl rfl rfl hF180 rfl ((decide_eq_true (by have h := abc4; simp only [h]; rfl)) : decide (((((bsum ([(97 : UInt8), (98 : UInt8), (99 : UInt8)])).getD 3 0).toNat : Nat) : Int) = (140 : Int)) = true) rfl) rfl rfl (rn_indexArr Tryd.underlying26 (by kernel_rfl : (Tryd.prog.info? 5).map (·.size) = some 1) (hF180.get rfl) rfl (by omega : (0 : Int) ≤ 0) (by omega : (0 : Int) < ((32 : Nat) : Int))) ?_)
  intro a182 hF183; clear hF180
  have b184 : Blk w131 g37 26 (byteVals (bsum ([]))) := (((((((b51.ext hx65).ext hx84).ext hx97).grownN hg104 (by omega)).ext hx113).ext hx126).grownN hg133 (by omega))
  refine wpl_op (i := 20) rfl (o_val (v := (.int .u8 (((bsum ([])).getD 0 0).toNat : Nat))) hF183 rfl (wanted_guard rfl rfl rfl hF183 rfl ((decide_eq_true (by have h := abc4; simp only [h]; rfl)) : decide (((((bsum ([(97 : UInt8), (98 : UInt8), (99 : UInt8)])).getD 3 0).toNat : Nat) : Int) = (140 : Int)) = true) rfl) rfl rfl (rn_load (isAgg_no Tryd.underlying5 rfl) (hF183.get rfl) (blk_byte b184 (by omega) (by have := (show List.length (bsum ([])) = _ from (bsum_len _)); omega))) ?_)
  intro a185 hF186; clear hF183
  refine wpl_op (i := 21) rfl (o_val (v := (.bool (decide (((((bsum ([])).getD 0 0).toNat : Nat) : Int) = (105 : Int))))) hF186 rfl (wanted_guard rfl rfl rfl hF186 rfl ((decide_eq_true (by have h := abc4; simp only [h]; rfl)) : decide (((((bsum ([(97 : UInt8), (98 : UInt8), (99 : UInt8)])).getD 3 0).toNat : Nat) : Int) = (140 : Int)) = true) rfl) rfl rfl (rn_eql (hF186.get rfl) rfl) ?_)
  intro a187 hF188; clear hF186
  refine wpl_op (i := 22) rfl (o_val (v := (.bool (decide (((((bsum ([])).getD 0 0).toNat : Nat) : Int) = (105 : Int))))) hF188 rfl rfl rfl rfl (rn_pickT (c_true hF188 rfl ((decide_eq_true (by have h := abc4; simp only [h]; rfl)) : decide (((((bsum ([(97 : UInt8), (98 : UInt8), (99 : UInt8)])).getD 3 0).toNat : Nat) : Int) = (140 : Int)) = true)) (hF188.get rfl)) ?_)
  intro a189 hF190; clear hF188
  refine wpl_op (i := 23) rfl (o_val (v := (.bool (decide (((((bsum ([])).getD 0 0).toNat : Nat) : Int) = (105 : Int))))) hF190 rfl rfl rfl rfl (rn_move (hF190.get rfl)) ?_)
  intro a191 hF192; clear hF190
  refine wpl_op (i := 24) rfl (o_val (v := (.pointer (some ⟨g37, 0 + 1, none⟩))) hF192 rfl (wanted_guard rfl rfl rfl hF192 rfl ((decide_eq_true (by have h := abc4; simp only [h]; rfl)) : decide (((((bsum ([])).getD 0 0).toNat : Nat) : Int) = (105 : Int)) = true) rfl) rfl rfl (rn_indexArr Tryd.underlying26 (by kernel_rfl : (Tryd.prog.info? 5).map (·.size) = some 1) (hF192.get rfl) rfl (by omega : (0 : Int) ≤ 1) (by omega : (1 : Int) < ((32 : Nat) : Int))) ?_)
  intro a194 hF195; clear hF192
  refine wpl_op (i := 25) rfl (o_val (v := (.int .u8 (((bsum ([])).getD 1 0).toNat : Nat))) hF195 rfl (wanted_guard rfl rfl rfl hF195 rfl ((decide_eq_true (by have h := abc4; simp only [h]; rfl)) : decide (((((bsum ([])).getD 0 0).toNat : Nat) : Int) = (105 : Int)) = true) rfl) rfl rfl (rn_load (isAgg_no Tryd.underlying5 rfl) (hF195.get rfl) (blk_byte b184 (by omega) (by have := (show List.length (bsum ([])) = _ from (bsum_len _)); omega))) ?_)
  intro a196 hF197; clear hF195
  refine wpl_op (i := 26) rfl (o_val (v := (.bool (decide (((((bsum ([])).getD 1 0).toNat : Nat) : Int) = (33 : Int))))) hF197 rfl (wanted_guard rfl rfl rfl hF197 rfl ((decide_eq_true (by have h := abc4; simp only [h]; rfl)) : decide (((((bsum ([])).getD 0 0).toNat : Nat) : Int) = (105 : Int)) = true) rfl) rfl rfl (rn_eql (hF197.get rfl) rfl) ?_)
  intro a198 hF199; clear hF197
  refine wpl_op (i := 27) rfl (o_val (v := (.bool (decide (((((bsum ([])).getD 1 0).toNat : Nat) : Int) = (33 : Int))))) hF199 rfl rfl rfl rfl (rn_pickT (c_true hF199 rfl ((decide_eq_true (by have h := abc4; simp only [h]; rfl)) : decide (((((bsum ([])).getD 0 0).toNat : Nat) : Int) = (105 : Int)) = true)) (hF199.get rfl)) ?_)
  intro a200 hF201; clear hF199
  refine wpl_op (i := 28) rfl (o_val (v := (.bool (decide (((((bsum ([])).getD 1 0).toNat : Nat) : Int) = (33 : Int))))) hF201 rfl rfl rfl rfl (rn_move (hF201.get rfl)) ?_)
  intro a202 hF203; clear hF201
  refine wpl_op (i := 29) rfl (o_val (v := (.pointer (some ⟨g37, 0 + 2, none⟩))) hF203 rfl (wanted_guard rfl rfl rfl hF203 rfl ((decide_eq_true (by have h := abc4; simp only [h]; rfl)) : decide (((((bsum ([])).getD 1 0).toNat : Nat) : Int) = (33 : Int)) = true) rfl) rfl rfl (rn_indexArr Tryd.underlying26 (by kernel_rfl : (Tryd.prog.info? 5).map (·.size) = some 1) (hF203.get rfl) rfl (by omega : (0 : Int) ≤ 2) (by omega : (2 : Int) < ((32 : Nat) : Int))) ?_)
  intro a205 hF206; clear hF203
  refine wpl_op (i := 30) rfl (o_val (v := (.int .u8 (((bsum ([])).getD 2 0).toNat : Nat))) hF206 rfl (wanted_guard rfl rfl rfl hF206 rfl ((decide_eq_true (by have h := abc4; simp only [h]; rfl)) : decide (((((bsum ([])).getD 1 0).toNat : Nat) : Int) = (33 : Int)) = true) rfl) rfl rfl (rn_load (isAgg_no Tryd.underlying5 rfl) (hF206.get rfl) (blk_byte b184 (by omega) (by have := (show List.length (bsum ([])) = _ from (bsum_len _)); omega))) ?_)
  intro a207 hF208; clear hF206
  refine wpl_op (i := 31) rfl (o_val (v := (.bool (decide (((((bsum ([])).getD 2 0).toNat : Nat) : Int) = (122 : Int))))) hF208 rfl (wanted_guard rfl rfl rfl hF208 rfl ((decide_eq_true (by have h := abc4; simp only [h]; rfl)) : decide (((((bsum ([])).getD 1 0).toNat : Nat) : Int) = (33 : Int)) = true) rfl) rfl rfl (rn_eql (hF208.get rfl) rfl) ?_)
  intro a209 hF210; clear hF208
  refine wpl_op (i := 32) rfl (o_val (v := (.bool (decide (((((bsum ([])).getD 2 0).toNat : Nat) : Int) = (122 : Int))))) hF210 rfl rfl rfl rfl (rn_pickT (c_true hF210 rfl ((decide_eq_true (by have h := abc4; simp only [h]; rfl)) : decide (((((bsum ([])).getD 1 0).toNat : Nat) : Int) = (33 : Int)) = true)) (hF210.get rfl)) ?_)
  intro a211 hF212; clear hF210
  refine wpl_op (i := 33) rfl (o_val (v := (.bool (decide (((((bsum ([])).getD 2 0).toNat : Nat) : Int) = (122 : Int))))) hF212 rfl rfl rfl rfl (rn_move (hF212.get rfl)) ?_)
  intro a213 hF214; clear hF212
  refine wpl_op (i := 34) rfl (o_val (v := (.pointer (some ⟨g37, 0 + 3, none⟩))) hF214 rfl (wanted_guard rfl rfl rfl hF214 rfl ((decide_eq_true (by have h := abc4; simp only [h]; rfl)) : decide (((((bsum ([])).getD 2 0).toNat : Nat) : Int) = (122 : Int)) = true) rfl) rfl rfl (rn_indexArr Tryd.underlying26 (by kernel_rfl : (Tryd.prog.info? 5).map (·.size) = some 1) (hF214.get rfl) rfl (by omega : (0 : Int) ≤ 3) (by omega : (3 : Int) < ((32 : Nat) : Int))) ?_)
  intro a216 hF217; clear hF214
  refine wpl_op (i := 35) rfl (o_val (v := (.int .u8 (((bsum ([])).getD 3 0).toNat : Nat))) hF217 rfl (wanted_guard rfl rfl rfl hF217 rfl ((decide_eq_true (by have h := abc4; simp only [h]; rfl)) : decide (((((bsum ([])).getD 2 0).toNat : Nat) : Int) = (122 : Int)) = true) rfl) rfl rfl (rn_load (isAgg_no Tryd.underlying5 rfl) (hF217.get rfl) (blk_byte b184 (by omega) (by have := (show List.length (bsum ([])) = _ from (bsum_len _)); omega))) ?_)
  intro a218 hF219; clear hF217
  refine wpl_op (i := 36) rfl (o_val (v := (.bool (decide (((((bsum ([])).getD 3 0).toNat : Nat) : Int) = (48 : Int))))) hF219 rfl (wanted_guard rfl rfl rfl hF219 rfl ((decide_eq_true (by have h := abc4; simp only [h]; rfl)) : decide (((((bsum ([])).getD 2 0).toNat : Nat) : Int) = (122 : Int)) = true) rfl) rfl rfl (rn_eql (hF219.get rfl) rfl) ?_)
  intro a220 hF221; clear hF219
  refine wpl_op (i := 37) rfl (o_val (v := (.bool (decide (((((bsum ([])).getD 3 0).toNat : Nat) : Int) = (48 : Int))))) hF221 rfl rfl rfl rfl (rn_pickT (c_true hF221 rfl ((decide_eq_true (by have h := abc4; simp only [h]; rfl)) : decide (((((bsum ([])).getD 2 0).toNat : Nat) : Int) = (122 : Int)) = true)) (hF221.get rfl)) ?_)
  intro a222 hF223; clear hF221
  refine wpl_op (i := 38) rfl (o_val (v := (.bool (decide (((((bsum ([])).getD 3 0).toNat : Nat) : Int) = (48 : Int))))) hF223 rfl rfl rfl rfl (rn_assign (hF223.get rfl)) ?_)
  intro a224 hF225; clear hF223
  refine wpList_nil ?_
  refine hK138 _ _ ?_
  clear hK138
  have hF226 := ((((((((hF225.nil.cons (hF225.get (t := 9) (v := (.bool (decide (((((bsum ([])).getD 3 0).toNat : Nat) : Int) = (48 : Int))))) rfl)).cons (hF225.get (t := 8) (v := (.int .i64 ((climbF ([(1 : UInt8), 0, 0, 0, 0, 0, 0, 0, 0, 0, 0, 0, 0, 0, 0, 0, 0, 0, 0, 0, 0, 0, 0, 0, 0, 0, 0, 0, 0, 0, 0, 0]) 0 1 ([])).2))) rfl)).cons (hF225.get (t := 7) (v := (.pointer (some ⟨g123, 0, none⟩))) rfl)).cons (hF225.get (t := 6) (v := (.int .i64 ((climbF (List.replicate 32 0) 0 2 ([])).2))) rfl)).cons (hF225.get (t := 4) (v := (.int .i64 ((pathF ([]) 0).2))) rfl)).cons (hF225.get (t := 2) (v := (.pointer (some ⟨g37, 0, none⟩))) rfl)).cons (hF225.get (t := 1) (v := (.pointer (some ⟨g29, 0, none⟩))) rfl)).cons (hF225.get (t := 0) (v := (.bool false)) rfl))
  clear hF225
  refine wp_seq_k (fun K227 hK227 => ?_)
  have hx229 : ∃ W, w131.drew = W ∧ Ext w131 W := ⟨_, rfl, (Ext.refl _).drew⟩
  obtain ⟨w228, e230, hx229⟩ := hx229
  have z231 := hx229.size
  refine any_start (fun W => Ext w228 W ∧ Blk W g123 26 (byteVals ((climbF ([(1 : UInt8), 0, 0, 0, 0, 0, 0, 0, 0, 0, 0, 0, 0, 0, 0, 0, 0, 0, 0, 0, 0, 0, 0, 0, 0, 0, 0, 0, 0, 0, 0, 0]) 0 1 ([])).1))) (fun i => false) 26 #[false, false, false, false, false, false, false, false, false, false, false, false, false, false, false, false, false, false, false, false, false, false, false, false, false, false] rfl rfl rfl ?_
  rw [e230]; clear e230
  refine any_pure (i := 0) (v := (.bool (decide (((((bsum ([])).getD 3 0).toNat : Nat) : Int) = (48 : Int))))) hF226 (by decide +kernel) (by decide +kernel) rfl rfl rfl rfl (fun _ _ _ _ h => h) rfl (fun W => (rn_move (hF226.get rfl))) ?_
  intro a232 hF233; clear hF226
  refine any_pure (i := 1) (v := (.bool (decide (((((bsum ([])).getD 3 0).toNat : Nat) : Int) = (48 : Int))))) hF233 (by decide +kernel) (by decide +kernel) rfl rfl rfl rfl (fun _ _ _ _ h => h) rfl (fun W => (rn_move (hF233.get rfl))) ?_
  intro a234 hF235; clear hF233
  refine any_pure (i := 2) (v := (.int .i64 ((pathF ([]) 0).2))) hF235 (by decide +kernel) (by decide +kernel) rfl rfl rfl rfl (fun _ _ _ _ h => h) (wanted_guard rfl rfl rfl hF235 rfl ((decide_eq_true (by have h := abc4; simp only [h]; rfl)) : decide (((((bsum ([])).getD 3 0).toNat : Nat) : Int) = (48 : Int)) = true) rfl) (fun W => (rn_move (hF235.get rfl))) ?_
  intro a237 hF238; clear hF235
  refine any_pure (i := 3) (v := (.bool (decide (((pathF ([]) 0).2 : Int) = (1 : Int))))) hF238 (by decide +kernel) (by decide +kernel) rfl rfl rfl rfl (fun _ _ _ _ h => h) (wanted_guard rfl rfl rfl hF238 rfl ((decide_eq_true (by have h := abc4; simp only [h]; rfl)) : decide (((((bsum ([])).getD 3 0).toNat : Nat) : Int) = (48 : Int)) = true) rfl) (fun W => (rn_eql (hF238.get rfl) rfl)) ?_
  intro a239 hF240; clear hF238
  refine any_pure (i := 4) (v := (.bool (decide (((pathF ([]) 0).2 : Int) = (1 : Int))))) hF240 (by decide +kernel) (by decide +kernel) rfl rfl rfl rfl (fun _ _ _ _ h => h) rfl (fun W => (rn_pickT (c_true hF240 rfl ((decide_eq_true (by have h := abc4; simp only [h]; rfl)) : decide (((((bsum ([])).getD 3 0).toNat : Nat) : Int) = (48 : Int)) = true)) (hF240.get rfl))) ?_
  intro a241 hF242; clear hF240
  refine any_pure (i := 5) (v := (.bool (decide (((pathF ([]) 0).2 : Int) = (1 : Int))))) hF242 (by decide +kernel) (by decide +kernel) rfl rfl rfl rfl (fun _ _ _ _ h => h) rfl (fun W => (rn_move (hF242.get rfl))) ?_
  intro a243 hF244; clear hF242
  refine any_pure (i := 6) (v := (.int .i64 ((climbF (List.replicate 32 0) 0 2 ([])).2))) hF244 (by decide +kernel) (by decide +kernel) rfl rfl rfl rfl (fun _ _ _ _ h => h) (wanted_guard rfl rfl rfl hF244 rfl ((decide_eq_true path_sane) : decide (((pathF ([]) 0).2 : Int) = (1 : Int)) = true) rfl) (fun W => (rn_move (hF244.get rfl))) ?_
  intro a246 hF247; clear hF244
  refine any_pure (i := 7) (v := (.bool (decide (((climbF (List.replicate 32 0) 0 2 ([])).2 : Int) = (1 : Int))))) hF247 (by decide +kernel) (by decide +kernel) rfl rfl rfl rfl (fun _ _ _ _ h => h) (wanted_guard rfl rfl rfl hF247 rfl ((decide_eq_true path_sane) : decide (((pathF ([]) 0).2 : Int) = (1 : Int)) = true) rfl) (fun W => (rn_eql (hF247.get rfl) rfl)) ?_
  intro a248 hF249; clear hF247
  refine any_pure (i := 8) (v := (.bool (decide (((climbF (List.replicate 32 0) 0 2 ([])).2 : Int) = (1 : Int))))) hF249 (by decide +kernel) (by decide +kernel) rfl rfl rfl rfl (fun _ _ _ _ h => h) rfl (fun W => (rn_pickT (c_true hF249 rfl ((decide_eq_true path_sane) : decide (((pathF ([]) 0).2 : Int) = (1 : Int)) = true)) (hF249.get rfl))) ?_
  intro a250 hF251; clear hF249
  refine any_pure (i := 9) (v := (.bool (decide (((climbF (List.replicate 32 0) 0 2 ([])).2 : Int) = (1 : Int))))) hF251 (by decide +kernel) (by decide +kernel) rfl rfl rfl rfl (fun _ _ _ _ h => h) rfl (fun W => (rn_move (hF251.get rfl))) ?_
  intro a252 hF253; clear hF251
  refine any_pure (i := 10) (v := (.int .i64 ((climbF ([(1 : UInt8), 0, 0, 0, 0, 0, 0, 0, 0, 0, 0, 0, 0, 0, 0, 0, 0, 0, 0, 0, 0, 0, 0, 0, 0, 0, 0, 0, 0, 0, 0, 0]) 0 1 ([])).2))) hF253 (by decide +kernel) (by decide +kernel) rfl rfl rfl rfl (fun _ _ _ _ h => h) (wanted_guard rfl rfl rfl hF253 rfl ((decide_eq_true (climb_sane _)) : decide (((climbF (List.replicate 32 0) 0 2 ([])).2 : Int) = (1 : Int)) = true) rfl) (fun W => (rn_move (hF253.get rfl))) ?_
  intro a255 hF256; clear hF253
  refine any_pure (i := 11) (v := (.bool (decide (((climbF ([(1 : UInt8), 0, 0, 0, 0, 0, 0, 0, 0, 0, 0, 0, 0, 0, 0, 0, 0, 0, 0, 0, 0, 0, 0, 0, 0, 0, 0, 0, 0, 0, 0, 0]) 0 1 ([])).2 : Int) = (0 : Int))))) hF256 (by decide +kernel) (by decide +kernel) rfl rfl rfl rfl (fun _ _ _ _ h => h) (wanted_guard rfl rfl rfl hF256 rfl ((decide_eq_true (climb_sane _)) : decide (((climbF (List.replicate 32 0) 0 2 ([])).2 : Int) = (1 : Int)) = true) rfl) (fun W => (rn_eql (hF256.get rfl) rfl)) ?_
  intro a257 hF258; clear hF256
  refine any_pure (i := 12) (v := (.bool (decide (((climbF ([(1 : UInt8), 0, 0, 0, 0, 0, 0, 0, 0, 0, 0, 0, 0, 0, 0, 0, 0, 0, 0, 0, 0, 0, 0, 0, 0, 0, 0, 0, 0, 0, 0, 0]) 0 1 ([])).2 : Int) = (0 : Int))))) hF258 (by decide +kernel) (by decide +kernel) rfl rfl rfl rfl (fun _ _ _ _ h => h) rfl (fun W => (rn_pickT (c_true hF258 rfl ((decide_eq_true (climb_sane _)) : decide (((climbF (List.replicate 32 0) 0 2 ([])).2 : Int) = (1 : Int)) = true)) (hF258.get rfl))) ?_
  intro a259 hF260; clear hF258
  refine any_pure (i := 13) (v := (.bool (decide (((climbF ([(1 : UInt8), 0, 0, 0, 0, 0, 0, 0, 0, 0, 0, 0, 0, 0, 0, 0, 0, 0, 0, 0, 0, 0, 0, 0, 0, 0, 0, 0, 0, 0, 0, 0]) 0 1 ([])).2 : Int) = (0 : Int))))) hF260 (by decide +kernel) (by decide +kernel) rfl rfl rfl rfl (fun _ _ _ _ h => h) rfl (fun W => (rn_move (hF260.get rfl))) ?_
  intro a261 hF262; clear hF260
  have b265 : Blk w228 g123 26 (byteVals ((climbF ([(1 : UInt8), 0, 0, 0, 0, 0, 0, 0, 0, 0, 0, 0, 0, 0, 0, 0, 0, 0, 0, 0, 0, 0, 0, 0, 0, 0, 0, 0, 0, 0, 0, 0]) 0 1 ([])).1)) := (b132.ext hx229)
  have hS264 : Ext w228 w228 ∧ Blk w228 g123 26 (byteVals ((climbF ([(1 : UInt8), 0, 0, 0, 0, 0, 0, 0, 0, 0, 0, 0, 0, 0, 0, 0, 0, 0, 0, 0, 0, 0, 0, 0, 0, 0, 0, 0, 0, 0, 0, 0]) 0 1 ([])).1)) := ⟨(Ext.refl w228), b265⟩
  refine any_val (i := 14) (v := (.agg (byteVals ((climbF ([(1 : UInt8), 0, 0, 0, 0, 0, 0, 0, 0, 0, 0, 0, 0, 0, 0, 0, 0, 0, 0, 0, 0, 0, 0, 0, 0, 0, 0, 0, 0, 0, 0, 0]) 0 1 ([])).1)).toArray)) hF262 (by decide +kernel) (by decide +kernel) rfl rfl rfl rfl (fun _ _ _ _ h => h) (wanted_guard rfl rfl rfl hF262 rfl ((decide_eq_true (by rw [climb_sane1])) : decide (((climbF ([(1 : UInt8), 0, 0, 0, 0, 0, 0, 0, 0, 0, 0, 0, 0, 0, 0, 0, 0, 0, 0, 0, 0, 0, 0, 0, 0, 0, 0, 0, 0, 0, 0, 0]) 0 1 ([])).2 : Int) = (0 : Int)) = true) rfl) hS264 (fun W hW => (rn_loadBlk (hF262.get rfl) hW.2 Tryd.underlying26 rfl ((by kernel_rfl : (Tryd.prog.info? 26).map (·.size) = some 32).trans (congrArg some (byteVals_len (climbF_len _ _ _ _)).symm)))) ?_
  intro a266 hF267; clear hF262
  refine any_pure (i := 15) (v := (.agg (byteVals ([(1 : UInt8), 0, 0, 0, 0, 0, 0, 0, 0, 0, 0, 0, 0, 0, 0, 0, 0, 0, 0, 0, 0, 0, 0, 0, 0, 0, 0, 0, 0, 0, 0, 0])).toArray)) hF267 (by decide +kernel) (by decide +kernel) rfl rfl rfl rfl (fun _ _ _ _ h => h) (wanted_guard rfl rfl rfl hF267 rfl ((decide_eq_true (by rw [climb_sane1])) : decide (((climbF ([(1 : UInt8), 0, 0, 0, 0, 0, 0, 0, 0, 0, 0, 0, 0, 0, 0, 0, 0, 0, 0, 0, 0, 0, 0, 0, 0, 0, 0, 0, 0, 0, 0, 0]) 0 1 ([])).2 : Int) = (0 : Int)) = true) rfl) (fun W => (rn_build (parts1 rfl) (by kernel_rfl))) ?_
  intro a268 hF269; clear hF267
  refine any_one (i := 16) (by decide +kernel) rfl ?_
  refine o_new (fun g => (.slice (some ⟨g, 0, none⟩) 1 1)) (byteVals (([(1 : UInt8), 0, 0, 0, 0, 0, 0, 0, 0, 0, 0, 0, 0, 0, 0, 0, 0, 0, 0, 0, 0, 0, 0, 0, 0, 0, 0, 0, 0, 0, 0, 0]))) 26 hF269 rfl (wanted_guard rfl rfl rfl hF269 rfl ((decide_eq_true (by rw [climb_sane1])) : decide (((climbF ([(1 : UInt8), 0, 0, 0, 0, 0, 0, 0, 0, 0, 0, 0, 0, 0, 0, 0, 0, 0, 0, 0, 0, 0, 0, 0, 0, 0, 0, 0, 0, 0, 0, 0]) 0 1 ([])).2 : Int) = (0 : Int)) = true) rfl) rfl rfl (rn_buildSlice (parts1 (hF269.get rfl)) (build_wholeE (vs := [(.agg (byteVals ([(1 : UInt8), 0, 0, 0, 0, 0, 0, 0, 0, 0, 0, 0, 0, 0, 0, 0, 0, 0, 0, 0, 0, 0, 0, 0, 0, 0, 0, 0, 0, 0, 0, 0])).toArray)]) El30 rfl rfl (fun v hv => by rw [List.mem_singleton.1 hv]; exact (byteVals_len (show List.length [(1 : UInt8), 0, 0, 0, 0, 0, 0, 0, 0, 0, 0, 0, 0, 0, 0, 0, 0, 0, 0, 0, 0, 0, 0, 0, 0, 0, 0, 0, 0, 0, 0, 0] = 32 from rfl))) (by decide) (by decide) (by simp [Value.cells, byteVals]))) ?_
  intro g270 w271 a276 hF277 z274 z275 b272 hx273; clear hF269
  have b278 : Blk w271 g123 26 (byteVals ((climbF ([(1 : UInt8), 0, 0, 0, 0, 0, 0, 0, 0, 0, 0, 0, 0, 0, 0, 0, 0, 0, 0, 0, 0, 0, 0, 0, 0, 0, 0, 0, 0, 0, 0, 0]) 0 1 ([])).1)) := (b265.ext hx273)
  refine ⟨fun _ _ => ⟨((Ext.refl w228).trans hx273), b278⟩, ?_⟩
  refine any_one (i := 17) (by decide +kernel) rfl ?_
  have hf279 := (Fl.digblk (S := fun b => b = g270) (n := 1) b272 (All32.sing (show List.length [(1 : UInt8), 0, 0, 0, 0, 0, 0, 0, 0, 0, 0, 0, 0, 0, 0, 0, 0, 0, 0, 0, 0, 0, 0, 0, 0, 0, 0, 0, 0, 0, 0, 0] = 32 from rfl)) (by simp [digVals, byteVals]))
  refine o_call hF277 rfl (wanted_guard rfl rfl rfl hF277 rfl ((decide_eq_true (by rw [climb_sane1])) : decide (((climbF ([(1 : UInt8), 0, 0, 0, 0, 0, 0, 0, 0, 0, 0, 0, 0, 0, 0, 0, 0, 0, 0, 0, 0, 0, 0, 0, 0, 0, 0, 0, 0, 0, 0, 0]) 0 1 ([])).2 : Int) = (0 : Int)) = true) rfl) rfl rfl (rn_call (args1 (hF277.get rfl)) rfl (by kernel_rfl)) (tree_at ([[(1 : UInt8), 0, 0, 0, 0, 0, 0, 0, 0, 0, 0, 0, 0, 0, 0, 0, 0, 0, 0, 0, 0, 0, 0, 0, 0, 0, 0, 0, 0, 0, 0, 0]]) _ (n := 1) (v := (.slice (some ⟨g270, 0, none⟩) 1 1)) (All32.sing (show List.length [(1 : UInt8), 0, 0, 0, 0, 0, 0, 0, 0, 0, 0, 0, 0, 0, 0, 0, 0, 0, 0, 0, 0, 0, 0, 0, 0, 0, 0, 0, 0, 0, 0, 0] = 32 from rfl)) hf279 (hG.ext ((((((((((((((((((Ext.refl w).trans hx8).grownN hg15 (by omega)).trans hx20).trans hx25).trans hx32).trans hx40).grownN hg47 (by omega)).grownN hg52 (by omega)).trans hx65).trans hx84).trans hx97).grownN hg104 (by omega)).trans hx113).trans hx126).grownN hg133 (by omega)).trans hx229).trans hx273))) ?_
  rintro _ w280 ⟨rfl, hx281⟩
  refine ⟨_, rfl, ?_⟩; intro a282 hF283; clear hF277; have z284 := hx281.size
  have b285 : Blk w280 g123 26 (byteVals ((climbF ([(1 : UInt8), 0, 0, 0, 0, 0, 0, 0, 0, 0, 0, 0, 0, 0, 0, 0, 0, 0, 0, 0, 0, 0, 0, 0, 0, 0, 0, 0, 0, 0, 0, 0]) 0 1 ([])).1)) := (b278.ext hx281)
  refine ⟨fun _ _ => ⟨(((Ext.refl w228).trans hx273).trans hx281), b285⟩, ?_⟩
  refine any_pure (i := 18) (v := (.bool (decide ((climbF ([(1 : UInt8), 0, 0, 0, 0, 0, 0, 0, 0, 0, 0, 0, 0, 0, 0, 0, 0, 0, 0, 0, 0, 0, 0, 0, 0, 0, 0, 0, 0, 0, 0, 0]) 0 1 ([])).1 = treeD ([[(1 : UInt8), 0, 0, 0, 0, 0, 0, 0, 0, 0, 0, 0, 0, 0, 0, 0, 0, 0, 0, 0, 0, 0, 0, 0, 0, 0, 0, 0, 0, 0, 0, 0]]))))) hF283 (by decide +kernel) (by decide +kernel) rfl rfl rfl rfl (fun _ _ _ _ h => h) (wanted_guard rfl rfl rfl hF283 rfl ((decide_eq_true (by rw [climb_sane1])) : decide (((climbF ([(1 : UInt8), 0, 0, 0, 0, 0, 0, 0, 0, 0, 0, 0, 0, 0, 0, 0, 0, 0, 0, 0, 0, 0, 0, 0, 0, 0, 0, 0, 0, 0, 0, 0]) 0 1 ([])).2 : Int) = (0 : Int)) = true) rfl) (fun W => (rn_eqA Tryd.underlying26 Tryd.underlying5 (by kernel_rfl : (Tryd.prog.info? 5).map (·.size) = some 1) (by kernel_rfl) (hF283.get rfl) (hF283.get rfl) (climbF_len _ _ _ _) (treeD_len _))) ?_
  intro a286 hF287; clear hF283
  refine any_pure (i := 19) (v := (.bool (decide ((climbF ([(1 : UInt8), 0, 0, 0, 0, 0, 0, 0, 0, 0, 0, 0, 0, 0, 0, 0, 0, 0, 0, 0, 0, 0, 0, 0, 0, 0, 0, 0, 0, 0, 0, 0]) 0 1 ([])).1 = treeD ([[(1 : UInt8), 0, 0, 0, 0, 0, 0, 0, 0, 0, 0, 0, 0, 0, 0, 0, 0, 0, 0, 0, 0, 0, 0, 0, 0, 0, 0, 0, 0, 0, 0, 0]]))))) hF287 (by decide +kernel) (by decide +kernel) rfl rfl rfl rfl (fun _ _ _ _ h => h) rfl (fun W => (rn_pickT (c_true hF287 rfl ((decide_eq_true (by rw [climb_sane1])) : decide (((climbF ([(1 : UInt8), 0, 0, 0, 0, 0, 0, 0, 0, 0, 0, 0, 0, 0, 0, 0, 0, 0, 0, 0, 0, 0, 0, 0, 0, 0, 0, 0, 0, 0, 0, 0]) 0 1 ([])).2 : Int) = (0 : Int)) = true)) (hF287.get rfl))) ?_
  intro a288 hF289; clear hF287
  refine any_pure (i := 20) (v := (.bool (decide ((climbF ([(1 : UInt8), 0, 0, 0, 0, 0, 0, 0, 0, 0, 0, 0, 0, 0, 0, 0, 0, 0, 0, 0, 0, 0, 0, 0, 0, 0, 0, 0, 0, 0, 0, 0]) 0 1 ([])).1 = treeD ([[(1 : UInt8), 0, 0, 0, 0, 0, 0, 0, 0, 0, 0, 0, 0, 0, 0, 0, 0, 0, 0, 0, 0, 0, 0, 0, 0, 0, 0, 0, 0, 0, 0, 0]]))))) hF289 (by decide +kernel) (by decide +kernel) rfl rfl rfl rfl (fun _ _ _ _ h => h) rfl (fun W => (rn_move (hF289.get rfl))) ?_
  intro a290 hF291; clear hF289
  refine any_one (i := 21) (by decide +kernel) rfl ?_
  have hf293 := (show Fl (fun _ => False) w280 32 (.slice none 0 0) 0 (digVals []) from Fl.nil _)
  refine o_call hF291 rfl (wanted_guard rfl rfl rfl hF291 rfl ((decide_eq_true (by rw [climb_sane1, tree_sane])) : decide ((climbF ([(1 : UInt8), 0, 0, 0, 0, 0, 0, 0, 0, 0, 0, 0, 0, 0, 0, 0, 0, 0, 0, 0, 0, 0, 0, 0, 0, 0, 0, 0, 0, 0, 0, 0]) 0 1 ([])).1 = treeD ([[(1 : UInt8), 0, 0, 0, 0, 0, 0, 0, 0, 0, 0, 0, 0, 0, 0, 0, 0, 0, 0, 0, 0, 0, 0, 0, 0, 0, 0, 0, 0, 0, 0, 0]])) = true) rfl) rfl rfl (rn_call (args1 rfl) rfl (by kernel_rfl)) (tree_at ([]) _ (n := 0) (v := (.slice none 0 0)) All32.nil hf293 (hG.ext (((((((((((((((((((Ext.refl w).trans hx8).grownN hg15 (by omega)).trans hx20).trans hx25).trans hx32).trans hx40).grownN hg47 (by omega)).grownN hg52 (by omega)).trans hx65).trans hx84).trans hx97).grownN hg104 (by omega)).trans hx113).trans hx126).grownN hg133 (by omega)).trans hx229).trans hx273).trans hx281))) ?_
  rintro _ w294 ⟨rfl, hx295⟩
  refine ⟨_, rfl, ?_⟩; intro a296 hF297; clear hF291; have z298 := hx295.size
  have b299 : Blk w294 g123 26 (byteVals ((climbF ([(1 : UInt8), 0, 0, 0, 0, 0, 0, 0, 0, 0, 0, 0, 0, 0, 0, 0, 0, 0, 0, 0, 0, 0, 0, 0, 0, 0, 0, 0, 0, 0, 0, 0]) 0 1 ([])).1)) := (b285.ext hx295)
  refine ⟨fun _ _ => ⟨((((Ext.refl w228).trans hx273).trans hx281).trans hx295), b299⟩, ?_⟩
  refine any_one (i := 22) (by decide +kernel) rfl ?_
  refine o_call hF297 rfl (wanted_guard rfl rfl rfl hF297 rfl ((decide_eq_true (by rw [climb_sane1, tree_sane])) : decide ((climbF ([(1 : UInt8), 0, 0, 0, 0, 0, 0, 0, 0, 0, 0, 0, 0, 0, 0, 0, 0, 0, 0, 0, 0, 0, 0, 0, 0, 0, 0, 0, 0, 0, 0, 0]) 0 1 ([])).1 = treeD ([[(1 : UInt8), 0, 0, 0, 0, 0, 0, 0, 0, 0, 0, 0, 0, 0, 0, 0, 0, 0, 0, 0, 0, 0, 0, 0, 0, 0, 0, 0, 0, 0, 0, 0]])) = true) rfl) rfl rfl (rn_call (args2 rfl rfl) rfl (by kernel_rfl)) (tagged_at ([101, 109, 112, 116, 121]) (v := (.slice none 0 0)) (n := 0) ([]) _ (show Fl (fun _ => False) w294 1 (.slice none 0 0) 0 (byteVals []) from Fl.nil _) (hG.ext ((((((((((((((((((((Ext.refl w).trans hx8).grownN hg15 (by omega)).trans hx20).trans hx25).trans hx32).trans hx40).grownN hg47 (by omega)).grownN hg52 (by omega)).trans hx65).trans hx84).trans hx97).grownN hg104 (by omega)).trans hx113).trans hx126).grownN hg133 (by omega)).trans hx229).trans hx273).trans hx281).trans hx295)) (by simp <;> omega) (by omega)) ?_
  rintro _ w300 ⟨rfl, hx301⟩
  refine ⟨_, rfl, ?_⟩; intro a302 hF303; clear hF297; have z304 := hx301.size
  have b305 : Blk w300 g123 26 (byteVals ((climbF ([(1 : UInt8), 0, 0, 0, 0, 0, 0, 0, 0, 0, 0, 0, 0, 0, 0, 0, 0, 0, 0, 0, 0, 0, 0, 0, 0, 0, 0, 0, 0, 0, 0, 0]) 0 1 ([])).1)) := (b299.ext hx301)
  refine ⟨fun _ _ => ⟨(((((Ext.refl w228).trans hx273).trans hx281).trans hx295).trans hx301), b305⟩, ?_⟩
  refine any_pure (i := 23) (v := (.bool (decide (treeD ([]) = tagged ([101, 109, 112, 116, 121]) ([]))))) hF303 (by decide +kernel) (by decide +kernel) rfl rfl rfl rfl (fun _ _ _ _ h => h) (wanted_guard rfl rfl rfl hF303 rfl ((decide_eq_true (by rw [climb_sane1, tree_sane])) : decide ((climbF ([(1 : UInt8), 0, 0, 0, 0, 0, 0, 0, 0, 0, 0, 0, 0, 0, 0, 0, 0, 0, 0, 0, 0, 0, 0, 0, 0, 0, 0, 0, 0, 0, 0, 0]) 0 1 ([])).1 = treeD ([[(1 : UInt8), 0, 0, 0, 0, 0, 0, 0, 0, 0, 0, 0, 0, 0, 0, 0, 0, 0, 0, 0, 0, 0, 0, 0, 0, 0, 0, 0, 0, 0, 0, 0]])) = true) rfl) (fun W => (rn_eqA Tryd.underlying26 Tryd.underlying5 (by kernel_rfl : (Tryd.prog.info? 5).map (·.size) = some 1) (by kernel_rfl) (hF303.get rfl) (hF303.get rfl) (treeD_len _) (tagged_len _ _))) ?_
  intro a306 hF307; clear hF303
  refine any_pure (i := 24) (v := (.bool (decide (treeD ([]) = tagged ([101, 109, 112, 116, 121]) ([]))))) hF307 (by decide +kernel) (by decide +kernel) rfl rfl rfl rfl (fun _ _ _ _ h => h) rfl (fun W => (rn_pickT (c_true hF307 rfl ((decide_eq_true (by rw [climb_sane1, tree_sane])) : decide ((climbF ([(1 : UInt8), 0, 0, 0, 0, 0, 0, 0, 0, 0, 0, 0, 0, 0, 0, 0, 0, 0, 0, 0, 0, 0, 0, 0, 0, 0, 0, 0, 0, 0, 0, 0]) 0 1 ([])).1 = treeD ([[(1 : UInt8), 0, 0, 0, 0, 0, 0, 0, 0, 0, 0, 0, 0, 0, 0, 0, 0, 0, 0, 0, 0, 0, 0, 0, 0, 0, 0, 0, 0, 0, 0, 0]])) = true)) (hF307.get rfl))) ?_
  intro a308 hF309; clear hF307
  refine any_pure (i := 25) (v := (.bool (decide (treeD ([]) = tagged ([101, 109, 112, 116, 121]) ([]))))) hF309 (by decide +kernel) (by decide +kernel) rfl rfl rfl rfl (fun _ _ _ _ h => h) rfl (fun W => (rn_assign (hF309.get rfl))) ?_
  intro a310 hF311; clear hF309
  refine any_nil (by decide +kernel) ?_
  refine hK227 _ _ ?_
  clear hK227
  have hF312 := ((((((((hF311.nil.cons (hF311.get (t := 9) (v := (.bool (decide (((((bsum ([])).getD 3 0).toNat : Nat) : Int) = (48 : Int))))) rfl)).cons (hF311.get (t := 8) (v := (.int .i64 ((climbF ([(1 : UInt8), 0, 0, 0, 0, 0, 0, 0, 0, 0, 0, 0, 0, 0, 0, 0, 0, 0, 0, 0, 0, 0, 0, 0, 0, 0, 0, 0, 0, 0, 0, 0]) 0 1 ([])).2))) rfl)).cons (hF311.get (t := 7) (v := (.pointer (some ⟨g123, 0, none⟩))) rfl)).cons (hF311.get (t := 6) (v := (.int .i64 ((climbF (List.replicate 32 0) 0 2 ([])).2))) rfl)).cons (hF311.get (t := 4) (v := (.int .i64 ((pathF ([]) 0).2))) rfl)).cons (hF311.get (t := 2) (v := (.pointer (some ⟨g37, 0, none⟩))) rfl)).cons (hF311.get (t := 1) (v := (.pointer (some ⟨g29, 0, none⟩))) rfl)).cons (hF311.get (t := 0) (v := (.bool (decide (treeD ([]) = tagged ([101, 109, 112, 116, 121]) ([]))))) rfl))
  clear hF311
  refine wp_ret ?_
  refine ret1 hF312 rfl rfl ?_
  exact ⟨congrArg (fun b => Ending.returned (.bool b)) ((decide_eq_true (tree_nil' rfl)) : decide (treeD ([]) = tagged ([101, 109, 112, 116, 121]) ([])) = true), (((((((((((((((((((((Ext.refl w).trans hx8).grownN hg15 (by omega)).trans hx20).trans hx25).trans hx32).trans hx40).grownN hg47 (by omega)).grownN hg52 (by omega)).trans hx65).trans hx84).trans hx97).grownN hg104 (by omega)).trans hx113).trans hx126).grownN hg133 (by omega)).trans hx229).trans hx273).trans hx281).trans hx295).trans hx301)⟩

set_option maxRecDepth 100000 in
set_option maxHeartbeats 1000000 in
theorem digsOf_any (A : Option Addr) (c : Nat) (s : List UInt8) (w : World) (hf : Fl S w 1 (.slice A s.length c) s.length (byteVals s)) :
    Calls Tryd.prog 15 #[.slice A s.length c] w (fun e w' => ∃ A c, e = .returned (.slice A (digsOf s).length c) ∧ Fl (fun b => w.heap.size ≤ b) w' 32 (.slice A (digsOf s).length c) (digsOf s).length (digVals (digsOf s)) ∧ Ext w w') := by
  have hcc := (Fl.cel hf).2.1
  refine calls_enter (l := [(.slice A s.length c)]) Tryd.func15 rfl rfl rfl (fun aA hF => ?_)
  refine wp_seq_k (fun K1 hK1 => ?_)
  refine wp_region_lit ?_
  refine wpl_op (i := 0) rfl (o_val (v := (.slice none 0 0)) hF rfl rfl rfl rfl (rn_assign rfl) ?_)
  intro a2 hF3; clear hF
  refine wpList_nil ?_
  refine hK1 _ _ ?_
  clear hK1
  refine wp_seq_k (fun K4 hK4 => ?_)
  refine wp_region_lit ?_
  refine wpl_op (i := 0) rfl (o_new (fun g => (.slice (some ⟨g, 0, none⟩) 0 0)) [] 26 hF3 rfl rfl rfl rfl (rn_buildSlice (parts0 ) (by kernel_rfl)) ?_)
  intro g5 w6 a11 hF12 z9 z10 b7 hx8; clear hF3
  refine wpl_op (i := 1) rfl (o_val (v := (.slice (some ⟨g5, 0, none⟩) 0 0)) hF12 rfl rfl rfl rfl (rn_assign (hF12.get rfl)) ?_)
  intro a13 hF14; clear hF12
  refine wpList_nil ?_
  refine hK4 _ _ ?_
  clear hK4
  refine wp_seq_k (fun K15 hK15 => ?_)
  refine wp_seq_k (fun K16 hK16 => ?_)
  refine wp_region_lit ?_
  refine wpl_op (i := 0) rfl (o_val (v := (.int .i64 0)) hF14 rfl rfl rfl rfl (rn_assign rfl) ?_)
  intro a17 hF18; clear hF14
  refine wpList_nil ?_
  refine hK16 _ _ ?_
  clear hK16
  refine wp_block ?_
  refine wp_loop (fun a' W => ∃ (k : Nat) (Ap : Option Addr) (np : Nat) (cp : Nat) (l : List (List UInt8)), Sl 29 [(0, (.slice A s.length c)), (2, (.slice none 0 0)), (3, (.slice Ap np cp)), (4, (.int .i64 (k : Nat)))] a' ∧ (k ≤ s.length ∧ k ≤ 24) ∧ np = k ∧ l = digsTo s k ∧ Ext w W ∧ W.ownsRow g5 26 32 (.slice Ap np cp) np (digVals l) ∧ g5 ≤ W.heap.size) (fun a' _ => s.length - (intOf (a'.eval (.tmp 4))).toNat) ⟨0, (some ⟨g5, 0, none⟩), 0, 0, [], ((((hF18.nil.cons (q_get hF18 (t := 4) rfl (by first | rfl | (congr 1; omega) | (congr 1; done)))).cons (q_get hF18 (t := 3) rfl (by first | rfl | (congr 1; omega) | (congr 1; done)))).cons (q_get hF18 (t := 2) rfl rfl)).cons (q_get hF18 (t := 0) rfl rfl)), ⟨by omega, by omega⟩, (by omega), rfl, ((Ext.refl w).trans hx8), (own_blk0 (k := 32) b7), (by omega)⟩ ?_
  clear hF18
  rintro a19 w20 ⟨k, Ap, np, cp, l, hF21, hp23, hp24, hp25, hx22, r26, hf27⟩
  have hL28 := hF21
  have z29 := hx22.size
  have z30 := own_form0 r26
  have hl32 : All32 l := by rw [hp25]; exact digsTo_32 _ _
  refine wp_seq_k (fun K31 hK31 => ?_)
  refine wp_seq_k (fun K32 hK32 => ?_)
  refine wp_region_lit ?_
  refine wpl_op (i := 0) rfl (o_val (v := (.int .i64 (k : Nat))) hF21 rfl rfl rfl rfl (rn_move (hF21.get rfl)) ?_)
  intro a33 hF34; clear hF21
  refine wpl_op (i := 1) rfl (o_val (v := (.slice A s.length c)) hF34 rfl rfl rfl rfl (rn_move (hF34.get rfl)) ?_)
  intro a35 hF36; clear hF34
  refine wpl_op (i := 2) rfl (o_val (v := (.int .i64 (s.length : Nat))) hF36 rfl rfl rfl rfl (rn_len_slice Tryd.underlying22 (hF36.get rfl)) ?_)
  intro a37 hF38; clear hF36
  refine wpl_op (i := 3) rfl (o_val (v := (.bool (decide (((k : Nat) : Int) < ((s.length : Nat) : Int))))) hF38 rfl rfl rfl rfl (rn_lss (hF38.get rfl) (hF38.get rfl)) ?_)
  intro a39 hF40; clear hF38
  refine wpl_op (i := 4) rfl (o_val (v := (.bool (decide (((k : Nat) : Int) < ((s.length : Nat) : Int))))) hF40 rfl rfl rfl rfl (rn_move (hF40.get rfl)) ?_)
  intro a41 hF42; clear hF40
  by_cases hc43 : ((k : Nat) : Int) < ((s.length : Nat) : Int)
  · skip
    refine wpl_op (i := 5) rfl (o_val (v := (.int .i64 (k : Nat))) hF42 rfl (wanted_guard rfl rfl rfl hF42 rfl (decide_eq_true hc43) rfl) rfl rfl (rn_move (hF42.get rfl)) ?_)
    intro a44 hF45; clear hF42
    refine wpl_op (i := 6) rfl (o_val (v := (.bool (decide (((k : Nat) : Int) < (24 : Int))))) hF45 rfl (wanted_guard rfl rfl rfl hF45 rfl (decide_eq_true hc43) rfl) rfl rfl (rn_lss (hF45.get rfl) rfl) ?_)
    intro a46 hF47; clear hF45
    refine wpl_op (i := 7) rfl (o_val (v := (.bool (decide (((k : Nat) : Int) < (24 : Int))))) hF47 rfl rfl rfl rfl (rn_pickT (c_true hF47 rfl (decide_eq_true hc43)) (hF47.get rfl)) ?_)
    intro a48 hF49; clear hF47
    refine wpList_nil ?_
    refine hK32 _ _ ?_
    clear hK32
    have hF50 := (((((hF49.nil.cons (hF49.get (t := 13) (v := (.bool (decide (((k : Nat) : Int) < (24 : Int))))) rfl)).cons (hF49.get (t := 4) (v := (.int .i64 (k : Nat))) rfl)).cons (hF49.get (t := 3) (v := (.slice Ap np cp)) rfl)).cons (hF49.get (t := 2) (v := (.slice none 0 0)) rfl)).cons (hF49.get (t := 0) (v := (.slice A s.length c)) rfl))
    clear hF49
    by_cases hc51 : ((k : Nat) : Int) < (24 : Int)
    · skip
      refine wp_cond_true (c_true hF50 rfl (decide_eq_true hc51)) ?_
      refine wp_skip ?_
      refine hK31 _ _ ?_
      clear hK31
      refine wp_seq_k (fun K52 hK52 => ?_)
      refine wp_block ?_
      refine wp_region_lit ?_
      refine wpl_op (i := 0) rfl (o_val (v := (.slice Ap np cp)) hF50 rfl rfl rfl rfl (rn_move (hF50.get rfl)) ?_)
      intro a53 hF54; clear hF50
      refine wpl_op (i := 1) rfl (o_val (v := (.slice A s.length c)) hF54 rfl rfl rfl rfl (rn_move (hF54.get rfl)) ?_)
      intro a55 hF56; clear hF54
      refine wpl_op (i := 2) rfl (o_val (v := (.int .i64 (k : Nat))) hF56 rfl rfl rfl rfl (rn_move (hF56.get rfl)) ?_)
      intro a57 hF58; clear hF56
      have d62 := (hf.ext hx22)
      obtain ⟨b59, o60, hA61, -⟩ := Fl.at d62 (by omega)
      refine wpl_op (i := 3) rfl (o_val (v := (.pointer (some ⟨b59, o60 + k, none⟩))) hF58 rfl rfl rfl rfl (rn_index1 Tryd.underlying22 (by kernel_rfl : (Tryd.prog.info? 5).map (·.size) = some 1) ((hF58.get rfl).trans (by rw [hA61])) (hF58.get rfl) (by omega : (0 : Int) ≤ (k : Nat)) (by omega : ((k : Nat) : Int) < ((s.length : Nat) : Int))) ?_)
      intro a63 hF64; clear hF58
      refine wpl_op (i := 4) rfl (o_val (v := (.int .u8 ((s.getD k 0).toNat : Nat))) hF64 rfl rfl rfl rfl (rn_load (isAgg_no Tryd.underlying5 rfl) (hF64.get rfl) (Fl.cellAt d62 hA61 (byteVals_at (i := k) (by omega)))) ?_)
      intro a65 hF66; clear hF64
      refine wpl_op (i := 5) rfl (o_val (v := (.int .u8 (((s.getD k 0) % (4 : UInt8)).toNat : Nat))) hF66 rfl rfl rfl rfl (rn_rem8 (a := (s.getD k 0)) (b := (4 : UInt8)) (hF66.get rfl) rfl (by decide)) ?_)
      intro a67 hF68; clear hF66
      refine wpl_op (i := 6) rfl (o_val (v := (.int .i64 (k : Nat))) hF68 rfl rfl rfl rfl (rn_move (hF68.get rfl)) ?_)
      intro a69 hF70; clear hF68
      refine wpl_op (i := 7) rfl (o_val (v := (.int .i64 (k / 8 : Nat))) hF70 rfl rfl rfl rfl (rn_quoN (a := k) (b := 8) (hF70.get rfl) rfl (by omega) (by omega)) ?_)
      intro a71 hF72; clear hF70
      refine wpl_op (i := 8) rfl (o_val (v := (.int .u8 ((UInt8.ofNat (k / 8)).toNat : Nat))) hF72 rfl rfl rfl rfl (rn_convW Tryd.underlying3 Tryd.underlying5 (hF72.get rfl) (cvi_8 (k / 8))) ?_)
      intro a73 hF74; clear hF72
      refine wpl_op (i := 9) rfl (o_val (v := (.agg (byteVals ([((s.getD k 0) % (4 : UInt8)), (UInt8.ofNat (k / 8)), 0, 0, 0, 0, 0, 0, 0, 0, 0, 0, 0, 0, 0, 0, 0, 0, 0, 0, 0, 0, 0, 0, 0, 0, 0, 0, 0, 0, 0, 0])).toArray)) hF74 rfl rfl rfl rfl (rn_build (parts2 (hF74.get rfl) (hF74.get rfl)) (by kernel_rfl)) ?_)
      intro a75 hF76; clear hF74
      have hf77 := r26
      refine wpl_op (i := 10) rfl (o_new (fun g => (.slice (some ⟨g, 0, none⟩) 1 1)) (byteVals (([((s.getD k 0) % (4 : UInt8)), (UInt8.ofNat (k / 8)), 0, 0, 0, 0, 0, 0, 0, 0, 0, 0, 0, 0, 0, 0, 0, 0, 0, 0, 0, 0, 0, 0, 0, 0, 0, 0, 0, 0, 0, 0]))) 26 hF76 rfl rfl rfl rfl (rn_buildSlice (parts1 (hF76.get rfl)) (build_wholeE (vs := [(.agg (byteVals ([((s.getD k 0) % (4 : UInt8)), (UInt8.ofNat (k / 8)), 0, 0, 0, 0, 0, 0, 0, 0, 0, 0, 0, 0, 0, 0, 0, 0, 0, 0, 0, 0, 0, 0, 0, 0, 0, 0, 0, 0, 0, 0])).toArray)]) El30 rfl rfl (fun v hv => by rw [List.mem_singleton.1 hv]; exact (byteVals_len (show List.length [((s.getD k 0) % (4 : UInt8)), (UInt8.ofNat (k / 8)), 0, 0, 0, 0, 0, 0, 0, 0, 0, 0, 0, 0, 0, 0, 0, 0, 0, 0, 0, 0, 0, 0, 0, 0, 0, 0, 0, 0, 0, 0] = 32 from rfl))) (by decide) (by decide) (by simp [Value.cells, byteVals]))) ?_)
      intro g78 w79 a84 hF85 z82 z83 b80 hx81; clear hF76
      have nb86 := own_new (g := g78) hf77 (by omega)
      have r87 := (own_ext r26 hx81)
      have hf96 := r87
      have nb97 : some g78 ≠ (Value.slice Ap np cp).ownBlock := nb86
      have z98 := b80.lt
      refine wpl_op (i := 11) rfl (o_appB (zs := digVals (l ++ ([[((s.getD k 0) % (4 : UInt8)), (UInt8.ofNat (k / 8)), 0, 0, 0, 0, 0, 0, 0, 0, 0, 0, 0, 0, 0, 0, 0, 0, 0, 0, 0, 0, 0, 0, 0, 0, 0, 0, 0, 0, 0, 0]]))) El30 hF85 rfl rfl rfl rfl rfl (hF85.get rfl) (hF85.get rfl) hf96 (Fl.cel (Fl.digblk (S := fun b => b = g78) b80 (All32.sing (show List.length [((s.getD k 0) % (4 : UInt8)), (UInt8.ofNat (k / 8)), 0, 0, 0, 0, 0, 0, 0, 0, 0, 0, 0, 0, 0, 0, 0, 0, 0, 0, 0, 0, 0, 0, 0, 0, 0, 0, 0, 0, 0, 0] = 32 from rfl)) (by simp [digVals, byteVals]))).2.2 (by omega) (by omega) (by omega) (digVals_app _ _) ?_)
      intro A88 c89 w90 a99 hF100 r91 hg92 z93 z94 hnb95; clear hF85; have z101 := hg92.size
      have nb102 := hnb95 g78 (by omega) nb97
      refine wpl_op (i := 12) rfl (o_val (v := (.slice A88 (np + 1) c89)) hF100 rfl rfl rfl rfl (rn_assign (hF100.get rfl)) ?_)
      intro a103 hF104; clear hF100
      refine wpList_nil ?_
      refine hK52 _ _ ?_
      clear hK52
      have hF105 := (((((hF104.nil.cons (hF104.get (t := 13) (v := (.bool (decide (((k : Nat) : Int) < (24 : Int))))) rfl)).cons (hF104.get (t := 4) (v := (.int .i64 (k : Nat))) rfl)).cons (hF104.get (t := 3) (v := (.slice A88 (np + 1) c89)) rfl)).cons (hF104.get (t := 2) (v := (.slice none 0 0)) rfl)).cons (hF104.get (t := 0) (v := (.slice A s.length c)) rfl))
      clear hF104
      refine wp_region_lit ?_
      refine wpl_op (i := 0) rfl (o_val (v := (.int .i64 (k : Nat))) hF105 rfl rfl rfl rfl (rn_move (hF105.get rfl)) ?_)
      intro a106 hF107; clear hF105
      refine wpl_op (i := 1) rfl (o_val (v := (.int .i64 (k + 1 : Nat))) hF107 rfl rfl rfl rfl (rn_addN (a := k) (b := 1) (hF107.get rfl) rfl (by omega)) ?_)
      intro a108 hF109; clear hF107
      refine wpl_op (i := 2) rfl (o_val (v := (.int .i64 (k + 1 : Nat))) hF109 rfl rfl rfl rfl (rn_assign (hF109.get rfl)) ?_)
      intro a110 hF111; clear hF109
      refine wpList_nil ?_
      refine ⟨⟨(k + 1), A88, np + 1, c89, l ++ ([[((s.getD k 0) % (4 : UInt8)), (UInt8.ofNat (k / 8)), 0, 0, 0, 0, 0, 0, 0, 0, 0, 0, 0, 0, 0, 0, 0, 0, 0, 0, 0, 0, 0, 0, 0, 0, 0, 0, 0, 0, 0, 0]]), ((((hF111.nil.cons (q_get hF111 (t := 4) rfl (by first | rfl | (congr 1; omega) | (congr 1; done)))).cons (q_get hF111 (t := 3) rfl (by first | rfl | (congr 1; omega) | (congr 1; done)))).cons (q_get hF111 (t := 2) rfl rfl)).cons (q_get hF111 (t := 0) rfl rfl)), ⟨by omega, by omega⟩, (by omega), (digsTo_step hp25), (ext_row (((Ext.refl w).trans hx22).trans hx81) hg92 hf96 (by omega)), r91, (by omega)⟩, ?_⟩
      rw [hF111.get (t := 4) rfl, hL28.get (t := 4) rfl]; simp [intOf]; omega
    · skip
      refine wp_cond_false (c_false hF50 rfl (decide_eq_false hc51)) ?_
      refine wp_exit ?_
      refine exit_then ?_
      refine exit_then ?_
      refine exit_here ?_
      refine hK15 _ _ ?_
      clear hK15
      refine wp_seq_k (fun K112 hK112 => ?_)
      refine wp_region_lit ?_
      refine wpl_op (i := 0) rfl (o_val (v := (.slice Ap np cp)) hF50 rfl rfl rfl rfl (rn_move (hF50.get rfl)) ?_)
      intro a113 hF114; clear hF50
      refine wpl_op (i := 1) rfl (o_val (v := (.slice Ap np cp)) hF114 rfl rfl rfl rfl (rn_assign (hF114.get rfl)) ?_)
      intro a115 hF116; clear hF114
      refine wpList_nil ?_
      refine hK112 _ _ ?_
      clear hK112
      refine wp_ret ?_
      refine ret1 hF116 rfl rfl ?_
      have hl : l = digsOf s := by rw [hp25, digsOf, show k = min s.length 24 by omega]
      have hrow := Fl.own (S := fun b => w.heap.size ≤ b) r26 (fun b hb => by omega) (digVals_one _)
      have hnp := Fl.dlen hrow hl32
      have hx := ((Ext.refl w).trans hx22)
      subst hl
      subst hnp
      exact ⟨Ap, cp, rfl, hrow, hx⟩
  · skip
    refine wpl_op (i := 5) rfl (o_skip hF42 rfl (unwanted_guard rfl rfl rfl hF42 rfl (decide_eq_false hc43) rfl) rfl rfl ?_)
    intro a117 hF118; clear hF42
    refine wpl_op (i := 6) rfl (o_skip hF118 rfl (unwanted_guard rfl rfl rfl hF118 rfl (decide_eq_false hc43) rfl) rfl rfl ?_)
    intro a119 hF120; clear hF118
    refine wpl_op (i := 7) rfl (o_val (v := (.bool false)) hF120 rfl rfl rfl rfl (rn_pickF (c_false hF120 rfl (decide_eq_false hc43)) rfl) ?_)
    intro a121 hF122; clear hF120
    refine wpList_nil ?_
    refine hK32 _ _ ?_
    clear hK32
    have hF123 := (((((hF122.nil.cons (hF122.get (t := 13) (v := (.bool false)) rfl)).cons (hF122.get (t := 4) (v := (.int .i64 (k : Nat))) rfl)).cons (hF122.get (t := 3) (v := (.slice Ap np cp)) rfl)).cons (hF122.get (t := 2) (v := (.slice none 0 0)) rfl)).cons (hF122.get (t := 0) (v := (.slice A s.length c)) rfl))
    clear hF122
    refine wp_cond_false (c_false hF123 rfl rfl) ?_
    refine wp_exit ?_
    refine exit_then ?_
    refine exit_then ?_
    refine exit_here ?_
    refine hK15 _ _ ?_
    clear hK15
    refine wp_seq_k (fun K124 hK124 => ?_)
    refine wp_region_lit ?_
    refine wpl_op (i := 0) rfl (o_val (v := (.slice Ap np cp)) hF123 rfl rfl rfl rfl (rn_move (hF123.get rfl)) ?_)
    intro a125 hF126; clear hF123
    refine wpl_op (i := 1) rfl (o_val (v := (.slice Ap np cp)) hF126 rfl rfl rfl rfl (rn_assign (hF126.get rfl)) ?_)
    intro a127 hF128; clear hF126
    refine wpList_nil ?_
    refine hK124 _ _ ?_
    clear hK124
    refine wp_ret ?_
    refine ret1 hF128 rfl rfl ?_
    have hl : l = digsOf s := by rw [hp25, digsOf, show k = min s.length 24 by omega]
    have hrow := Fl.own (S := fun b => w.heap.size ≤ b) r26 (fun b hb => by omega) (digVals_one _)
    have hnp := Fl.dlen hrow hl32
    have hx := ((Ext.refl w).trans hx22)
    subst hl
    subst hnp
    exact ⟨Ap, cp, rfl, hrow, hx⟩

theorem digsOf_at {v : Value} {n : Nat} (s : List UInt8) (w : World) (hf : Fl S w 1 v n (byteVals s)) : Calls Tryd.prog 15 #[v] w (fun e w' => ∃ A c, e = .returned (.slice A (digsOf s).length c) ∧ Fl (fun b => w.heap.size ≤ b) w' 32 (.slice A (digsOf s).length c) (digsOf s).length (digVals (digsOf s)) ∧ Ext w w') := by
  have hm := hf.blen
  subst hm
  obtain ⟨A, c, rfl, _⟩ := hf.form
  exact digsOf_any A c s w hf

set_option maxRecDepth 100000 in
set_option maxHeartbeats 1000000 in
theorem steps_any (a n : Nat) (w : World) (ha : a < n) (hn : n ≤ 4398046511104) :
    Calls Tryd.prog 23 #[.int .i64 (a : Nat), .int .i64 (n : Nat)] w (fun e w' => e = .returned (.int .i64 ((dirs a n).length : Nat)) ∧ Ext w w') := by
  refine calls_enter (l := [(.int .i64 (a : Nat)), (.int .i64 (n : Nat))]) Tryd.func23 rfl rfl rfl (fun aA hF => ?_)
  refine wp_seq_k (fun K1 hK1 => ?_)
  refine wp_region_lit ?_
  refine wpl_op (i := 0) rfl (o_val (v := (.int .i64 0)) hF rfl rfl rfl rfl (rn_assign rfl) ?_)
  intro a2 hF3; clear hF
  refine wpList_nil ?_
  refine hK1 _ _ ?_
  clear hK1
  refine wp_seq_k (fun K4 hK4 => ?_)
  refine wp_region_lit ?_
  refine wpl_op (i := 0) rfl (o_val (v := (.int .i64 0)) hF3 rfl rfl rfl rfl (rn_assign rfl) ?_)
  intro a5 hF6; clear hF3
  refine wpList_nil ?_
  refine hK4 _ _ ?_
  clear hK4
  refine wp_seq_k (fun K7 hK7 => ?_)
  refine wp_block ?_
  refine wp_loop (fun a' W => ∃ (a0 : Nat) (n0 : Nat) (t : Nat), Sl 28 [(0, (.int .i64 (a0 : Nat))), (1, (.int .i64 (n0 : Nat))), (4, (.int .i64 0)), (5, (.int .i64 (t : Nat)))] a' ∧ (a0 < n0 ∧ n0 ≤ n) ∧ (dirs a n).length = t + (dirs a0 n0).length ∧ t + n0 ≤ n ∧ Ext w W) (fun a' _ => (intOf (a'.eval (.tmp 1))).toNat) ⟨a, n, 0, ((((hF6.nil.cons (q_get hF6 (t := 5) rfl (by first | rfl | (congr 1; omega) | (congr 1; done)))).cons (q_get hF6 (t := 4) rfl rfl)).cons (q_get hF6 (t := 1) rfl (by first | rfl | (congr 1; omega) | (congr 1; done)))).cons (q_get hF6 (t := 0) rfl (by first | rfl | (congr 1; omega) | (congr 1; done)))), ⟨by omega, by omega⟩, (Nat.zero_add _).symm, (by omega), (Ext.refl w)⟩ ?_
  clear hF6
  rintro a8 w9 ⟨a0, n0, t, hF10, hp12, hp13, hp14, hx11⟩
  have hL15 := hF10
  have z16 := hx11.size
  refine wp_seq_k (fun K17 hK17 => ?_)
  refine wp_seq_k (fun K18 hK18 => ?_)
  refine wp_region_lit ?_
  refine wpl_op (i := 0) rfl (o_val (v := (.int .i64 (n0 : Nat))) hF10 rfl rfl rfl rfl (rn_move (hF10.get rfl)) ?_)
  intro a19 hF20; clear hF10
  refine wpl_op (i := 1) rfl (o_val (v := (.bool (decide ((1 : Int) < ((n0 : Nat) : Int))))) hF20 rfl rfl rfl rfl (rn_gtr (hF20.get rfl) rfl) ?_)
  intro a21 hF22; clear hF20
  refine wpList_nil ?_
  refine hK18 _ _ ?_
  clear hK18
  by_cases hc23 : (1 : Int) < ((n0 : Nat) : Int)
  · skip
    refine wp_cond_true (c_true hF22 rfl (decide_eq_true hc23)) ?_
    refine wp_skip ?_
    refine hK17 _ _ ?_
    clear hK17
    refine wp_block ?_
    refine wp_seq_k (fun K24 hK24 => ?_)
    refine wp_region_lit ?_
    refine wpl_op (i := 0) rfl (o_val (v := (.int .i64 1)) hF22 rfl rfl rfl rfl (rn_assign rfl) ?_)
    intro a25 hF26; clear hF22
    refine wpList_nil ?_
    refine hK24 _ _ ?_
    clear hK24
    refine wp_seq_k (fun K27 hK27 => ?_)
    refine wp_block ?_
    refine wp_loop (fun a' W => ∃ (k : Nat) (j : Nat), Sl 28 [(0, (.int .i64 (a0 : Nat))), (1, (.int .i64 (n0 : Nat))), (4, (.int .i64 0)), (5, (.int .i64 (t : Nat))), (8, (.bool (decide ((1 : Int) < ((n0 : Nat) : Int))))), (6, (.int .i64 (k : Nat)))] a' ∧ k = 2 ^ j ∧ k < n0 ∧ 1 ≤ k ∧ Ext w W) (fun a' _ => n0 - (intOf (a'.eval (.tmp 6))).toNat) ⟨1, 0, ((((((hF26.nil.cons (q_get hF26 (t := 6) rfl (by first | rfl | (congr 1; omega) | (congr 1; done)))).cons (q_get hF26 (t := 8) rfl rfl)).cons (q_get hF26 (t := 5) rfl rfl)).cons (q_get hF26 (t := 4) rfl rfl)).cons (q_get hF26 (t := 1) rfl rfl)).cons (q_get hF26 (t := 0) rfl rfl)), rfl, (by omega), (by omega), ((Ext.refl w).trans hx11)⟩ ?_
    clear hF26
    rintro a28 w29 ⟨k, j, hF30, hp32, hp33, hp34, hx31⟩
    have hL35 := hF30
    have z36 := hx31.size
    refine wp_seq_k (fun K37 hK37 => ?_)
    refine wp_seq_k (fun K38 hK38 => ?_)
    refine wp_region_lit ?_
    refine wpl_op (i := 0) rfl (o_val (v := (.int .i64 (k : Nat))) hF30 rfl rfl rfl rfl (rn_move (hF30.get rfl)) ?_)
    intro a39 hF40; clear hF30
    refine wpl_op (i := 1) rfl (o_val (v := (.int .i64 (2 * k : Nat))) hF40 rfl rfl rfl rfl (rn_mulN (a := 2) (b := k) rfl (hF40.get rfl) (by omega)) ?_)
    intro a41 hF42; clear hF40
    refine wpl_op (i := 2) rfl (o_val (v := (.int .i64 (n0 : Nat))) hF42 rfl rfl rfl rfl (rn_move (hF42.get rfl)) ?_)
    intro a43 hF44; clear hF42
    refine wpl_op (i := 3) rfl (o_val (v := (.bool (decide (((2 * k : Nat) : Int) < ((n0 : Nat) : Int))))) hF44 rfl rfl rfl rfl (rn_lss (hF44.get rfl) (hF44.get rfl)) ?_)
    intro a45 hF46; clear hF44
    refine wpList_nil ?_
    refine hK38 _ _ ?_
    clear hK38
    by_cases hc47 : ((2 * k : Nat) : Int) < ((n0 : Nat) : Int)
    · skip
      refine wp_cond_true (c_true hF46 rfl (decide_eq_true hc47)) ?_
      refine wp_skip ?_
      refine hK37 _ _ ?_
      clear hK37
      refine wp_block ?_
      refine wp_region_lit ?_
      refine wpl_op (i := 0) rfl (o_val (v := (.int .i64 (k : Nat))) hF46 rfl rfl rfl rfl (rn_move (hF46.get rfl)) ?_)
      intro a48 hF49; clear hF46
      refine wpl_op (i := 1) rfl (o_val (v := (.int .i64 (k * 2 : Nat))) hF49 rfl rfl rfl rfl (rn_mulN (a := k) (b := 2) (hF49.get rfl) rfl (by omega)) ?_)
      intro a50 hF51; clear hF49
      refine wpl_op (i := 2) rfl (o_val (v := (.int .i64 (k * 2 : Nat))) hF51 rfl rfl rfl rfl (rn_assign (hF51.get rfl)) ?_)
      intro a52 hF53; clear hF51
      refine wpList_nil ?_
      refine ⟨⟨k * 2, (j + 1), ((((((hF53.nil.cons (q_get hF53 (t := 6) rfl (by first | rfl | (congr 1; omega) | (congr 1; done)))).cons (q_get hF53 (t := 8) rfl rfl)).cons (q_get hF53 (t := 5) rfl rfl)).cons (q_get hF53 (t := 4) rfl rfl)).cons (q_get hF53 (t := 1) rfl rfl)).cons (q_get hF53 (t := 0) rfl rfl)), (by rw [Nat.pow_succ]; omega), (by omega), (by omega), ((Ext.refl w).trans hx31)⟩, ?_⟩
      rw [hF53.get (t := 6) rfl, hL35.get (t := 6) rfl]; simp [intOf]; omega
    · skip
      refine wp_cond_false (c_false hF46 rfl (decide_eq_false hc47)) ?_
      refine wp_exit ?_
      refine exit_then ?_
      refine exit_then ?_
      refine exit_here ?_
      refine hK27 _ _ ?_
      clear hK27
      refine wp_seq_k (fun K54 hK54 => ?_)
      refine wp_seq_k (fun K55 hK55 => ?_)
      have hkh : k = half n0 := half_unique j hp32 (by omega) (by omega)
      refine wp_region_lit ?_
      refine wpl_op (i := 0) rfl (o_val (v := (.int .i64 (a0 : Nat))) hF46 rfl rfl rfl rfl (rn_move (hF46.get rfl)) ?_)
      intro a56 hF57; clear hF46
      refine wpl_op (i := 1) rfl (o_val (v := (.int .i64 (k : Nat))) hF57 rfl rfl rfl rfl (rn_move (hF57.get rfl)) ?_)
      intro a58 hF59; clear hF57
      refine wpl_op (i := 2) rfl (o_val (v := (.bool (decide (((a0 : Nat) : Int) < ((k : Nat) : Int))))) hF59 rfl rfl rfl rfl (rn_lss (hF59.get rfl) (hF59.get rfl)) ?_)
      intro a60 hF61; clear hF59
      refine wpList_nil ?_
      refine hK55 _ _ ?_
      clear hK55
      have hF62 := ((((((((hF61.nil.cons (hF61.get (t := 17) (v := (.bool (decide (((a0 : Nat) : Int) < ((k : Nat) : Int))))) rfl)).cons (hF61.get (t := 12) (v := (.bool (decide (((2 * k : Nat) : Int) < ((n0 : Nat) : Int))))) rfl)).cons (hF61.get (t := 6) (v := (.int .i64 (k : Nat))) rfl)).cons (hF61.get (t := 8) (v := (.bool (decide ((1 : Int) < ((n0 : Nat) : Int))))) rfl)).cons (hF61.get (t := 5) (v := (.int .i64 (t : Nat))) rfl)).cons (hF61.get (t := 4) (v := (.int .i64 0)) rfl)).cons (hF61.get (t := 1) (v := (.int .i64 (n0 : Nat))) rfl)).cons (hF61.get (t := 0) (v := (.int .i64 (a0 : Nat))) rfl))
      clear hF61
      by_cases hc63 : ((a0 : Nat) : Int) < ((k : Nat) : Int)
      · skip
        refine wp_cond_true (c_true hF62 rfl (decide_eq_true hc63)) ?_
        refine wp_region_lit ?_
        refine wpl_op (i := 0) rfl (o_val (v := (.int .i64 (k : Nat))) hF62 rfl rfl rfl rfl (rn_move (hF62.get rfl)) ?_)
        intro a64 hF65; clear hF62
        refine wpl_op (i := 1) rfl (o_val (v := (.int .i64 (k : Nat))) hF65 rfl rfl rfl rfl (rn_assign (hF65.get rfl)) ?_)
        intro a66 hF67; clear hF65
        refine wpList_nil ?_
        refine hK54 _ _ ?_
        clear hK54
        refine wp_region_lit ?_
        refine wpl_op (i := 0) rfl (o_val (v := (.int .i64 (t : Nat))) hF67 rfl rfl rfl rfl (rn_move (hF67.get rfl)) ?_)
        intro a68 hF69; clear hF67
        refine wpl_op (i := 1) rfl (o_val (v := (.int .i64 (t + 1 : Nat))) hF69 rfl rfl rfl rfl (rn_addN (a := t) (b := 1) (hF69.get rfl) rfl (by omega)) ?_)
        intro a70 hF71; clear hF69
        refine wpl_op (i := 2) rfl (o_val (v := (.int .i64 (t + 1 : Nat))) hF71 rfl rfl rfl rfl (rn_assign (hF71.get rfl)) ?_)
        intro a72 hF73; clear hF71
        refine wpList_nil ?_
        refine ⟨⟨a0, k, (t + 1), ((((hF73.nil.cons (q_get hF73 (t := 5) rfl (by first | rfl | (congr 1; omega) | (congr 1; done)))).cons (q_get hF73 (t := 4) rfl rfl)).cons (q_get hF73 (t := 1) rfl (by first | rfl | (congr 1; omega) | (congr 1; done)))).cons (q_get hF73 (t := 0) rfl (by first | rfl | (congr 1; omega) | (congr 1; done)))), ⟨by omega, by omega⟩, (by have hq := hp13; rw [dirs_first (at_ := a0) (n := n0) (by omega) (by omega), List.length_cons, ← hkh] at hq; omega), (by omega), ((Ext.refl w).trans hx31)⟩, ?_⟩
        rw [hF73.get (t := 1) rfl, hL15.get (t := 1) rfl]; simp [intOf]; omega
      · skip
        refine wp_cond_false (c_false hF62 rfl (decide_eq_false hc63)) ?_
        refine wp_region_lit ?_
        refine wpl_op (i := 0) rfl (o_val (v := (.int .i64 (a0 : Nat))) hF62 rfl rfl rfl rfl (rn_move (hF62.get rfl)) ?_)
        intro a74 hF75; clear hF62
        refine wpl_op (i := 1) rfl (o_val (v := (.int .i64 (k : Nat))) hF75 rfl rfl rfl rfl (rn_move (hF75.get rfl)) ?_)
        intro a76 hF77; clear hF75
        refine wpl_op (i := 2) rfl (o_val (v := (.int .i64 (a0 - k : Nat))) hF77 rfl rfl rfl rfl (rn_subN (a := a0) (b := k) (hF77.get rfl) (hF77.get rfl) (by omega) (by omega)) ?_)
        intro a78 hF79; clear hF77
        refine wpl_op (i := 3) rfl (o_val (v := (.int .i64 (n0 : Nat))) hF79 rfl rfl rfl rfl (rn_move (hF79.get rfl)) ?_)
        intro a80 hF81; clear hF79
        refine wpl_op (i := 4) rfl (o_val (v := (.int .i64 (k : Nat))) hF81 rfl rfl rfl rfl (rn_move (hF81.get rfl)) ?_)
        intro a82 hF83; clear hF81
        refine wpl_op (i := 5) rfl (o_val (v := (.int .i64 (n0 - k : Nat))) hF83 rfl rfl rfl rfl (rn_subN (a := n0) (b := k) (hF83.get rfl) (hF83.get rfl) (by omega) (by omega)) ?_)
        intro a84 hF85; clear hF83
        refine wpl_op (i := 6) rfl (o_val (v := (.int .i64 (a0 - k : Nat))) hF85 rfl rfl rfl rfl (rn_assign (hF85.get rfl)) ?_)
        intro a86 hF87; clear hF85
        refine wpl_op (i := 7) rfl (o_val (v := (.int .i64 (n0 - k : Nat))) hF87 rfl rfl rfl rfl (rn_assign (hF87.get rfl)) ?_)
        intro a88 hF89; clear hF87
        refine wpList_nil ?_
        refine hK54 _ _ ?_
        clear hK54
        have hF90 := ((((((((hF89.nil.cons (hF89.get (t := 17) (v := (.bool (decide (((a0 : Nat) : Int) < ((k : Nat) : Int))))) rfl)).cons (hF89.get (t := 12) (v := (.bool (decide (((2 * k : Nat) : Int) < ((n0 : Nat) : Int))))) rfl)).cons (hF89.get (t := 6) (v := (.int .i64 (k : Nat))) rfl)).cons (hF89.get (t := 8) (v := (.bool (decide ((1 : Int) < ((n0 : Nat) : Int))))) rfl)).cons (hF89.get (t := 5) (v := (.int .i64 (t : Nat))) rfl)).cons (hF89.get (t := 4) (v := (.int .i64 0)) rfl)).cons (hF89.get (t := 1) (v := (.int .i64 (n0 - k : Nat))) rfl)).cons (hF89.get (t := 0) (v := (.int .i64 (a0 - k : Nat))) rfl))
        clear hF89
        refine wp_region_lit ?_
        refine wpl_op (i := 0) rfl (o_val (v := (.int .i64 (t : Nat))) hF90 rfl rfl rfl rfl (rn_move (hF90.get rfl)) ?_)
        intro a91 hF92; clear hF90
        refine wpl_op (i := 1) rfl (o_val (v := (.int .i64 (t + 1 : Nat))) hF92 rfl rfl rfl rfl (rn_addN (a := t) (b := 1) (hF92.get rfl) rfl (by omega)) ?_)
        intro a93 hF94; clear hF92
        refine wpl_op (i := 2) rfl (o_val (v := (.int .i64 (t + 1 : Nat))) hF94 rfl rfl rfl rfl (rn_assign (hF94.get rfl)) ?_)
        intro a95 hF96; clear hF94
        refine wpList_nil ?_
        refine ⟨⟨a0 - k, n0 - k, (t + 1), ((((hF96.nil.cons (q_get hF96 (t := 5) rfl (by first | rfl | (congr 1; omega) | (congr 1; done)))).cons (q_get hF96 (t := 4) rfl rfl)).cons (q_get hF96 (t := 1) rfl (by first | rfl | (congr 1; omega) | (congr 1; done)))).cons (q_get hF96 (t := 0) rfl (by first | rfl | (congr 1; omega) | (congr 1; done)))), ⟨by omega, by omega⟩, (by have hq := hp13; rw [dirs_second (at_ := a0) (n := n0) (by omega) (by omega), List.length_cons, ← hkh] at hq; omega), (by omega), ((Ext.refl w).trans hx31)⟩, ?_⟩
        rw [hF96.get (t := 1) rfl, hL15.get (t := 1) rfl]; simp [intOf]; omega
  · skip
    refine wp_cond_false (c_false hF22 rfl (decide_eq_false hc23)) ?_
    refine wp_exit ?_
    refine exit_then ?_
    refine exit_then ?_
    refine exit_here ?_
    refine hK7 _ _ ?_
    clear hK7
    refine wp_seq_k (fun K97 hK97 => ?_)
    refine wp_region_lit ?_
    refine wpl_op (i := 0) rfl (o_val (v := (.int .i64 (t : Nat))) hF22 rfl rfl rfl rfl (rn_move (hF22.get rfl)) ?_)
    intro a98 hF99; clear hF22
    refine wpl_op (i := 1) rfl (o_val (v := (.int .i64 (t : Nat))) hF99 rfl rfl rfl rfl (rn_assign (hF99.get rfl)) ?_)
    intro a100 hF101; clear hF99
    refine wpList_nil ?_
    refine hK97 _ _ ?_
    clear hK97
    refine wp_ret ?_
    refine ret1 hF101 rfl rfl ?_
    exact ⟨by rw [hp13, dirs_one (by omega)]; rfl, ((Ext.refl w).trans hx11)⟩

theorem steps_at (a n : Int) (w : World) (h0 : 0 ≤ a) (h1 : a < n) (h2 : n ≤ 4398046511104) : Calls Tryd.prog 23 #[.int .i64 a, .int .i64 n] w (fun e w' => e = .returned (.int .i64 ((dirs a.toNat n.toNat).length : Nat)) ∧ Ext w w') := by
  obtain ⟨an, rfl⟩ : ∃ an : Nat, a = (an : Int) := ⟨a.toNat, by omega⟩
  obtain ⟨nn, rfl⟩ : ∃ nn : Nat, n = (nn : Int) := ⟨n.toNat, by omega⟩
  exact steps_any an nn w (by omega) (by omega)

end Go.Proofs.YtgodliookpgliaaDoor
