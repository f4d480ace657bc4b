/- The law DigestClimbs walked. -/
import Derived.Test.YtgodliookpgliaaDoorProg
import Derived.Test.YtgodliookpgliaaDoorLawB3
import Derived.Test.YtgodliookpgliaaDoorWk11
import Derived.KernelRfl
namespace Go.Proofs.YtgodliookpgliaaDoor
open Go.RowKit

variable {S S' : Nat → Prop}

theorem path_in (l : List (List UInt8)) (a : Nat) (h : a < l.length) : pathF l (a : Int) = (pathD l a, 0) := by rw [pathF, if_neg (by omega), Int.toNat_natCast]
theorem pathD_dirs (l : List (List UInt8)) (a : Nat) : (pathD l a).length = (dirs a l.length).length := path_len _ _ _ _ _
theorem climb_in (l : List (List UInt8)) (a : Nat) (h : a < l.length) (hl : l.length ≤ 1099511627776) : climbF (l.getD a []) (a : Int) ((l.length : Nat) : Int) (pathD l a) = (treeD l, 0) := by
  rw [climbF, if_neg (by rw [Int.toNat_natCast, Int.toNat_natCast, pathD_dirs]; omega), Int.toNat_natCast, Int.toNat_natCast]
  exact congrArg (fun x => (x, (0 : Int))) (climbs nodeD leafD emptyD l a h)
theorem climb_out (l : List (List UInt8)) (a : Nat) (x d : List UInt8) : climbF d (a : Int) ((l.length : Nat) : Int) (pathD l a ++ [x]) = (zero32, 1) := by
  rw [climbF, if_pos (by right; rw [Int.toNat_natCast, Int.toNat_natCast, List.length_append, pathD_dirs]; simp)]
theorem pathD_le5 (l : List (List UInt8)) (a : Nat) (h : l.length ≤ 24) : (pathD l a).length ≤ 5 := by rw [pathD_dirs]; exact dirs_len 5 a _ (by omega)

set_option maxRecDepth 100000 in
set_option maxHeartbeats 1000000 in
theorem climbs_any (A : Option Addr) (c : Nat) (s : List UInt8) (w : World) (hf : Fl S w 1 (.slice A s.length c) s.length (byteVals s)) (hG : Glob w) :
    Calls Tryd.prog 6 #[.slice A s.length c] w (fun e w' => e = .returned (.bool true) ∧ Ext w w') := by
  have hc : Fl (Clip S w) w 1 (.slice A s.length c) s.length (byteVals s) := hf.clip
  have hcc := (Fl.cel hc).2.1
  refine calls_enter (l := [(.slice A s.length c)]) Tryd.func6 rfl rfl rfl (fun aA hF => ?_)
  refine wp_seq_k (fun K1 hK1 => ?_)
  refine wp_region_lit ?_
  refine wpl_op (i := 0) rfl (o_val (v := (.bool false)) hF rfl rfl rfl rfl (rn_assign rfl) ?_)
  intro a2 hF3; clear hF
  refine wpList_nil ?_
  refine hK1 _ _ ?_
  clear hK1
  refine wp_seq_k (fun K4 hK4 => ?_)
  refine wp_seq_k (fun K5 hK5 => ?_)
  refine wp_region_lit ?_
  refine wpl_op (i := 0) rfl (o_call hF3 rfl rfl rfl rfl (rn_call (args0 ) rfl (by kernel_rfl)) (sane_any _ (hG.ext (Ext.refl w))) ?_)
  rintro _ w6 ⟨rfl, hx7⟩
  refine ⟨_, rfl, ?_⟩; intro a8 hF9; clear hF3; have z10 := hx7.size
  refine wpl_op (i := 1) rfl (o_val (v := (.bool false)) hF9 rfl rfl rfl rfl (rn_not' (hF9.get rfl) rfl) ?_)
  intro a11 hF12; clear hF9
  refine wpList_nil ?_
  refine hK5 _ _ ?_
  clear hK5
  refine wp_cond_false (c_false hF12 rfl rfl) ?_
  refine wp_skip ?_
  refine hK4 _ _ ?_
  clear hK4
  refine wp_seq_k (fun K13 hK13 => ?_)
  refine wp_region_lit ?_
  refine wpl_op (i := 0) rfl (o_val (v := (.slice A s.length c)) hF12 rfl rfl rfl rfl (rn_move (hF12.get rfl)) ?_)
  intro a14 hF15; clear hF12
  have d16 := (hc.ext hx7)
  refine wpl_op (i := 1) rfl (o_call hF15 rfl rfl rfl rfl (rn_call (args1 (hF15.get rfl)) rfl (by kernel_rfl)) (digsOf_at s _ (v := (.slice A s.length c)) (n := s.length) d16) ?_)
  rintro _ w23 ⟨A17, c18, rfl, hf19, hx24⟩
  have z20 := (Fl.cel hf19).2.1; have z22 := digsOf_len s
  refine ⟨_, rfl, ?_⟩; intro a25 hF26; clear hF15; have z27 := hx24.size
  have hf28 : Fl (Clip (fun b => w6.heap.size ≤ b) w23) w23 32 (.slice A17 ((digsOf s).length) c18) ((digsOf s).length) (digVals (digsOf s)) := hf19.clip
  refine wpl_op (i := 2) rfl (o_val (v := (.slice A17 ((digsOf s).length) c18)) hF26 rfl rfl rfl rfl (rn_assign (hF26.get rfl)) ?_)
  intro a29 hF30; clear hF26
  refine wpList_nil ?_
  refine hK13 _ _ ?_
  clear hK13
  refine wp_seq_k (fun K31 hK31 => ?_)
  refine wp_region_lit ?_
  refine wpl_op (i := 0) rfl (o_val (v := (.slice A17 ((digsOf s).length) c18)) hF30 rfl rfl rfl rfl (rn_move (hF30.get rfl)) ?_)
  intro a32 hF33; clear hF30
  have hf34 := hf28
  refine wpl_op (i := 1) rfl (o_call hF33 rfl rfl rfl rfl (rn_call (args1 (hF33.get rfl)) rfl (by kernel_rfl)) (tree_at (digsOf s) _ (n := (digsOf s).length) (v := (.slice A17 ((digsOf s).length) c18)) (digsOf_32 _) hf34 (hG.ext (((Ext.refl w).trans hx7).trans hx24))) ?_)
  rintro _ w35 ⟨rfl, hx36⟩
  refine ⟨_, rfl, ?_⟩; intro a37 hF38; clear hF33; have z39 := hx36.size
  refine wpl_op (i := 2) rfl (o_new (fun g => (.pointer (some ⟨g, 0, none⟩))) (byteVals (List.replicate 32 0)) 26 hF38 rfl rfl rfl rfl (by kernel_rfl) ?_)
  intro g40 w41 a46 hF47 z44 z45 b42 hx43; clear hF38
  refine wpl_op (i := 3) rfl (o_store (cells := (byteVals (treeD (digsOf s)))) hF47 rfl rfl rfl rfl (hF47.get rfl) (hF47.get rfl) b42 ((by kernel_rfl : (Tryd.prog.info? 26).map (·.size) = some 32).trans (congrArg some (byteVals_len (treeD_len _)).symm)) ((byteVals_len (show List.length (List.replicate 32 0) = _ from List.length_replicate)).trans (byteVals_len (treeD_len _)).symm) (byteVals_one _) ?_)
  intro w48 b49 hg50; have z51 := hg50.size
  refine wpList_nil ?_
  refine hK31 _ _ ?_
  clear hK31
  have hF52 := (((((hF47.nil.cons (hF47.get (t := 4) (v := (.pointer (some ⟨g40, 0, none⟩))) rfl)).cons (hF47.get (t := 3) (v := (.slice A17 ((digsOf s).length) c18)) rfl)).cons (hF47.get (t := 14) (v := (.bool false)) rfl)).cons (hF47.get (t := 2) (v := (.bool false)) rfl)).cons (hF47.get (t := 0) (v := (.slice A s.length c)) rfl))
  clear hF47
  refine wp_seq_k (fun K53 hK53 => ?_)
  refine wp_seq_k (fun K54 hK54 => ?_)
  refine wp_region_lit ?_
  refine wpl_op (i := 0) rfl (o_val (v := (.slice A17 ((digsOf s).length) c18)) hF52 rfl rfl rfl rfl (rn_move (hF52.get rfl)) ?_)
  intro a55 hF56; clear hF52
  refine wpl_op (i := 1) rfl (o_val (v := (.int .i64 ((digsOf s).length : Nat))) hF56 rfl rfl rfl rfl (rn_len_slice Tryd.underlying30 (hF56.get rfl)) ?_)
  intro a57 hF58; clear hF56
  refine wpl_op (i := 2) rfl (o_val (v := (.int .i64 0)) hF58 rfl rfl rfl rfl (rn_move rfl) ?_)
  intro a59 hF60; clear hF58
  refine wpList_nil ?_
  refine hK54 _ _ ?_
  clear hK54
  refine wp_block ?_
  have d61 := (hf28.pres ((((Pres.refl w23).ext hx36).ext hx43).grownN hg50 (fun h => by simp only [Clip] at h; omega)))
  refine wp_loop (fun a' W => ∃ (k : Nat), Sl 76 [(0, (.slice A s.length c)), (2, (.bool false)), (14, (.bool false)), (3, (.slice A17 ((digsOf s).length) c18)), (4, (.pointer (some ⟨g40, 0, none⟩))), (19, (.slice A17 ((digsOf s).length) c18)), (20, (.int .i64 ((digsOf s).length : Nat))), (21, (.int .i64 (k : Nat)))] a' ∧ k ≤ (digsOf s).length ∧ Ext w W ∧ Blk W g40 26 (byteVals (treeD (digsOf s))) ∧ Fl (Clip (fun b => w6.heap.size ≤ b) w23) W 32 (.slice A17 ((digsOf s).length) c18) ((digsOf s).length) (digVals (digsOf s)) ∧ w48.heap.size ≤ W.heap.size) (fun a' _ => (digsOf s).length - (intOf (a'.eval (.tmp 21))).toNat) ⟨0, ((((((((hF60.nil.cons (q_get hF60 (t := 21) rfl (by first | rfl | (congr 1; omega) | (congr 1; done)))).cons (q_get hF60 (t := 20) rfl rfl)).cons (q_get hF60 (t := 19) rfl rfl)).cons (q_get hF60 (t := 4) rfl rfl)).cons (q_get hF60 (t := 3) rfl rfl)).cons (q_get hF60 (t := 14) rfl rfl)).cons (q_get hF60 (t := 2) rfl rfl)).cons (q_get hF60 (t := 0) rfl rfl)), (by omega), ((((((Ext.refl w).trans hx7).trans hx24).trans hx36).trans hx43).grownN hg50 (by omega)), b49, d61, (Nat.le_refl _)⟩ ?_
  clear hF60
  rintro a62 w63 ⟨k, hF64, hp66, hx65, b67, hf68, hf69⟩
  have hL70 := hF64
  have z71 := hx65.size
  have z72 := b67.lt
  refine wp_seq_k (fun K73 hK73 => ?_)
  refine wp_region_lit ?_
  refine wpl_op (i := 0) rfl (o_val (v := (.bool (decide (((k : Nat) : Int) < (((digsOf s).length : Nat) : Int))))) hF64 rfl rfl rfl rfl (rn_lss (hF64.get rfl) (hF64.get rfl)) ?_)
  intro a74 hF75; clear hF64
  refine wpList_nil ?_
  refine hK73 _ _ ?_
  clear hK73
  refine wp_seq_k (fun K76 hK76 => ?_)
  by_cases hc77 : ((k : Nat) : Int) < (((digsOf s).length : Nat) : Int)
  · skip
    refine wp_cond_true (c_true hF75 rfl (decide_eq_true hc77)) ?_
    refine wp_skip ?_
    refine hK76 _ _ ?_
    clear hK76
    refine wp_seq_k (fun K78 hK78 => ?_)
    refine wp_block ?_
    refine wp_seq_k (fun K79 hK79 => ?_)
    refine wp_region_lit ?_
    refine wpl_op (i := 0) rfl (o_val (v := (.int .i64 (k : Nat))) hF75 rfl rfl rfl rfl (rn_move (hF75.get rfl)) ?_)
    intro a80 hF81; clear hF75
    obtain ⟨b82, o83, hA84, -⟩ := Fl.at hf68 (by omega)
    refine wpl_op (i := 1) rfl (o_val (v := (.pointer (some ⟨b82, o83 + k * 32, none⟩))) hF81 rfl rfl rfl rfl (rn_indexE Tryd.underlying30 (by kernel_rfl : (Tryd.prog.info? 26).map (·.size) = some 32) ((hF81.get rfl).trans (by rw [hA84])) (hF81.get rfl) (by omega : (0 : Int) ≤ (k : Nat)) (by omega : ((k : Nat) : Int) < (((digsOf s).length : Nat) : Int)) (by omega)) ?_)
    intro a85 hF86; clear hF81
    refine wpl_op (i := 2) rfl (o_val (v := (.agg (byteVals ((digsOf s).getD k [])).toArray)) hF86 rfl rfl rfl rfl (rn_loadN (cs := byteVals ((digsOf s).getD k [])) (hF86.get rfl) Tryd.underlying26 rfl ((by kernel_rfl : (Tryd.prog.info? 26).map (·.size) = some 32).trans (congrArg some (byteVals_len (dig_len (digsOf_32 _) k (by omega))).symm)) (Fl.digAt hf68 hA84 (digsOf_32 _) (by omega))) ?_)
    intro a87 hF88; clear hF86
    refine wpl_op (i := 3) rfl (o_new (fun g => (.pointer (some ⟨g, 0, none⟩))) (byteVals (List.replicate 32 0)) 26 hF88 rfl rfl rfl rfl (by kernel_rfl) ?_)
    intro g89 w90 a95 hF96 z93 z94 b91 hx92; clear hF88
    refine wpl_op (i := 4) rfl (o_val (v := (.int .i64 (k : Nat))) hF96 rfl rfl rfl rfl (rn_assign (hF96.get rfl)) ?_)
    intro a97 hF98; clear hF96
    refine wpl_op (i := 5) rfl (o_store (cells := (byteVals ((digsOf s).getD k []))) hF98 rfl rfl rfl rfl (hF98.get rfl) (hF98.get rfl) b91 ((by kernel_rfl : (Tryd.prog.info? 26).map (·.size) = some 32).trans (congrArg some (byteVals_len (dig_len (digsOf_32 _) k (by omega))).symm)) ((byteVals_len (show List.length (List.replicate 32 0) = _ from List.length_replicate)).trans (byteVals_len (dig_len (digsOf_32 _) k (by omega))).symm) (byteVals_one _) ?_)
    intro w99 b100 hg101; have z102 := hg101.size
    refine wpList_nil ?_
    refine hK79 _ _ ?_
    clear hK79
    refine wp_seq_k (fun K103 hK103 => ?_)
    refine wp_region_lit ?_
    refine wpl_op (i := 0) rfl (o_val (v := (.slice A17 ((digsOf s).length) c18)) hF98 rfl rfl rfl rfl (rn_move (hF98.get rfl)) ?_)
    intro a104 hF105; clear hF98
    refine wpl_op (i := 1) rfl (o_val (v := (.int .i64 (k : Nat))) hF105 rfl rfl rfl rfl (rn_move (hF105.get rfl)) ?_)
    intro a106 hF107; clear hF105
    have d108 := (hf68.pres (((Pres.refl w63).ext hx92).grownN hg101 (fun h => by simp only [Clip] at h; omega)))
    refine wpl_op (i := 2) rfl (o_call hF107 rfl rfl rfl rfl (rn_call (args2 (hF107.get rfl) (hF107.get rfl)) rfl (by kernel_rfl)) (path_at (digsOf s) ((k : Nat) : Int) _ (v := (.slice A17 ((digsOf s).length) c18)) (n := (digsOf s).length) (digsOf_32 _) d108 (hG.ext ((((Ext.refl w).trans hx65).trans hx92).grownN hg101 (by omega))) (by omega)) ?_)
    rw [path_in _ _ (by omega)]
    rintro _ w116 ⟨A109, n110, c111, rfl, hf112, h32113, hx117⟩
    have z114 := (Fl.cel hf112).2.1
    have z118 : (pathD (digsOf s) k).length = n110 := Fl.dlen hf112 h32113; have z119 := pathD_le5 (digsOf s) k (by omega)
    refine ⟨_, rfl, ?_⟩; intro a120 hF121; clear hF107; have z122 := hx117.size
    have hf123 : Fl (Clip (fun b => w99.heap.size ≤ b) w116) w116 32 (.slice A109 n110 c111) n110 (digVals (pathD (digsOf s) k)) := hf112.clip
    refine wpl_op (i := 3) rfl (o_val (v := (.tuple #[(.slice A109 n110 c111), (.int .i64 0)])) hF121 rfl rfl rfl rfl (rn_move (hF121.get rfl)) ?_)
    intro a124 hF125; clear hF121
    refine wpl_op (i := 4) rfl (o_val (v := (.slice A109 n110 c111)) hF125 rfl rfl rfl rfl (rn_extract (hF125.get rfl) rfl) ?_)
    intro a126 hF127; clear hF125
    refine wpl_op (i := 5) rfl (o_val (v := (.int .i64 0)) hF127 rfl rfl rfl rfl (rn_extract (hF127.get rfl) rfl) ?_)
    intro a128 hF129; clear hF127
    refine wpl_op (i := 6) rfl (o_val (v := (.slice A109 n110 c111)) hF129 rfl rfl rfl rfl (rn_assign (hF129.get rfl)) ?_)
    intro a130 hF131; clear hF129
    refine wpl_op (i := 7) rfl (o_val (v := (.int .i64 0)) hF131 rfl rfl rfl rfl (rn_assign (hF131.get rfl)) ?_)
    intro a132 hF133; clear hF131
    refine wpList_nil ?_
    refine hK103 _ _ ?_
    clear hK103
    have hF134 := (((((((((((((hF133.nil.cons (hF133.get (t := 8) (v := (.int .i64 0)) rfl)).cons (hF133.get (t := 7) (v := (.slice A109 n110 c111)) rfl)).cons (hF133.get (t := 5) (v := (.int .i64 (k : Nat))) rfl)).cons (hF133.get (t := 6) (v := (.pointer (some ⟨g89, 0, none⟩))) rfl)).cons (hF133.get (t := 22) (v := (.bool (decide (((k : Nat) : Int) < (((digsOf s).length : Nat) : Int))))) rfl)).cons (hF133.get (t := 21) (v := (.int .i64 (k : Nat))) rfl)).cons (hF133.get (t := 20) (v := (.int .i64 ((digsOf s).length : Nat))) rfl)).cons (hF133.get (t := 19) (v := (.slice A17 ((digsOf s).length) c18)) rfl)).cons (hF133.get (t := 4) (v := (.pointer (some ⟨g40, 0, none⟩))) rfl)).cons (hF133.get (t := 3) (v := (.slice A17 ((digsOf s).length) c18)) rfl)).cons (hF133.get (t := 14) (v := (.bool false)) rfl)).cons (hF133.get (t := 2) (v := (.bool false)) rfl)).cons (hF133.get (t := 0) (v := (.slice A s.length c)) rfl))
    clear hF133
    refine wp_seq_k (fun K135 hK135 => ?_)
    refine wp_region_lit ?_
    have b136 : Blk w116 g89 26 (byteVals ((digsOf s).getD k [])) := (b100.ext hx117)
    refine wpl_op (i := 0) rfl (o_val (v := (.agg (byteVals ((digsOf s).getD k [])).toArray)) hF134 rfl rfl rfl rfl (rn_loadBlk (hF134.get rfl) b136 Tryd.underlying26 rfl ((by kernel_rfl : (Tryd.prog.info? 26).map (·.size) = some 32).trans (congrArg some (byteVals_len (dig_len (digsOf_32 _) k (by omega))).symm))) ?_)
    intro a137 hF138; clear hF134
    refine wpl_op (i := 1) rfl (o_val (v := (.int .i64 (k : Nat))) hF138 rfl rfl rfl rfl (rn_move (hF138.get rfl)) ?_)
    intro a139 hF140; clear hF138
    refine wpl_op (i := 2) rfl (o_val (v := (.slice A17 ((digsOf s).length) c18)) hF140 rfl rfl rfl rfl (rn_move (hF140.get rfl)) ?_)
    intro a141 hF142; clear hF140
    refine wpl_op (i := 3) rfl (o_val (v := (.int .i64 ((digsOf s).length : Nat))) hF142 rfl rfl rfl rfl (rn_len_slice Tryd.underlying30 (hF142.get rfl)) ?_)
    intro a143 hF144; clear hF142
    refine wpl_op (i := 4) rfl (o_val (v := (.slice A109 n110 c111)) hF144 rfl rfl rfl rfl (rn_move (hF144.get rfl)) ?_)
    intro a145 hF146; clear hF144
    refine wpl_op (i := 5) rfl (o_call hF146 rfl rfl rfl rfl (rn_call (args4 (hF146.get rfl) (hF146.get rfl) (hF146.get rfl) (hF146.get rfl)) rfl (by kernel_rfl)) (climb_at ((digsOf s).getD k []) ((k : Nat) : Int) (((digsOf s).length : Nat) : Int) (pathD (digsOf s) k) _ (v := (.slice A109 n110 c111)) (m := n110) (dig_len (digsOf_32 _) k (by omega)) (pathD_32 _ _ _ (Nat.le_refl _)) hf123 (hG.ext (((((Ext.refl w).trans hx65).trans hx92).grownN hg101 (by omega)).trans hx117))) ?_)
    rw [climb_in _ _ (by omega) (by omega)]
    rintro _ w147 ⟨rfl, hx148⟩
    refine ⟨_, rfl, ?_⟩; intro a149 hF150; clear hF146; have z151 := hx148.size
    refine wpl_op (i := 6) rfl (o_val (v := (.tuple #[(.agg (byteVals (treeD (digsOf s))).toArray), (.int .i64 0)])) hF150 rfl rfl rfl rfl (rn_move (hF150.get rfl)) ?_)
    intro a152 hF153; clear hF150
    refine wpl_op (i := 7) rfl (o_val (v := (.agg (byteVals (treeD (digsOf s))).toArray)) hF153 rfl rfl rfl rfl (rn_extract (hF153.get rfl) rfl) ?_)
    intro a154 hF155; clear hF153
    refine wpl_op (i := 8) rfl (o_val (v := (.int .i64 0)) hF155 rfl rfl rfl rfl (rn_extract (hF155.get rfl) rfl) ?_)
    intro a156 hF157; clear hF155
    refine wpl_op (i := 9) rfl (o_new (fun g => (.pointer (some ⟨g, 0, none⟩))) (byteVals (List.replicate 32 0)) 26 hF157 rfl rfl rfl rfl (by kernel_rfl) ?_)
    intro g158 w159 a164 hF165 z162 z163 b160 hx161; clear hF157
    refine wpl_op (i := 10) rfl (o_store (cells := (byteVals (treeD (digsOf s)))) hF165 rfl rfl rfl rfl (hF165.get rfl) (hF165.get rfl) b160 ((by kernel_rfl : (Tryd.prog.info? 26).map (·.size) = some 32).trans (congrArg some (byteVals_len (treeD_len _)).symm)) ((byteVals_len (show List.length (List.replicate 32 0) = _ from List.length_replicate)).trans (byteVals_len (treeD_len _)).symm) (byteVals_one _) ?_)
    intro w166 b167 hg168; have z169 := hg168.size
    refine wpl_op (i := 11) rfl (o_val (v := (.int .i64 0)) hF165 rfl rfl rfl rfl (rn_assign (hF165.get rfl)) ?_)
    intro a170 hF171; clear hF165
    refine wpList_nil ?_
    refine hK135 _ _ ?_
    clear hK135
    have hF172 := (((((((((((((((hF171.nil.cons (hF171.get (t := 10) (v := (.int .i64 0)) rfl)).cons (hF171.get (t := 9) (v := (.pointer (some ⟨g158, 0, none⟩))) rfl)).cons (hF171.get (t := 8) (v := (.int .i64 0)) rfl)).cons (hF171.get (t := 7) (v := (.slice A109 n110 c111)) rfl)).cons (hF171.get (t := 5) (v := (.int .i64 (k : Nat))) rfl)).cons (hF171.get (t := 6) (v := (.pointer (some ⟨g89, 0, none⟩))) rfl)).cons (hF171.get (t := 22) (v := (.bool (decide (((k : Nat) : Int) < (((digsOf s).length : Nat) : Int))))) rfl)).cons (hF171.get (t := 21) (v := (.int .i64 (k : Nat))) rfl)).cons (hF171.get (t := 20) (v := (.int .i64 ((digsOf s).length : Nat))) rfl)).cons (hF171.get (t := 19) (v := (.slice A17 ((digsOf s).length) c18)) rfl)).cons (hF171.get (t := 4) (v := (.pointer (some ⟨g40, 0, none⟩))) rfl)).cons (hF171.get (t := 3) (v := (.slice A17 ((digsOf s).length) c18)) rfl)).cons (hF171.get (t := 14) (v := (.bool false)) rfl)).cons (hF171.get (t := 2) (v := (.bool false)) rfl)).cons (hF171.get (t := 0) (v := (.slice A s.length c)) rfl))
    clear hF171
    refine wp_seq_k (fun K173 hK173 => ?_)
    have hx175 : ∃ W, w166.drew = W ∧ Ext w166 W := ⟨_, rfl, (Ext.refl _).drew⟩
    obtain ⟨w174, e176, hx175⟩ := hx175
    have z177 := hx175.size
    refine any_start (fun W => Ext w174 W ∧ Blk W g89 26 (byteVals ((digsOf s).getD k []))) (fun i => i == 15) 17 #[false, false, false, false, false, false, false, false, false, false, false, false, false, false, false, false, false] rfl rfl rfl ?_
    rw [e176]; clear e176
    refine any_have (n1 := 2) (L1 := #[true, true, true, true, true, true, true, true, true, true, true, true, true, true, true, false, false]) (fun a' W => ∃ (g378 : Nat) (g273 : Nat) (A338 : Option Addr) (c339 : Nat), Sl 76 [(0, (.slice A s.length c)), (2, (.bool false)), (3, (.slice A17 ((digsOf s).length) c18)), (4, (.pointer (some ⟨g40, 0, none⟩))), (5, (.int .i64 (k : Nat))), (6, (.pointer (some ⟨g89, 0, none⟩))), (7, (.slice A109 n110 c111)), (8, (.int .i64 0)), (9, (.pointer (some ⟨g158, 0, none⟩))), (10, (.int .i64 0)), (11, (.pointer (some ⟨g378, 0, none⟩))), (14, (.bool false)), (19, (.slice A17 ((digsOf s).length) c18)), (20, (.int .i64 ((digsOf s).length : Nat))), (21, (.int .i64 (k : Nat))), (22, (.bool (decide (((k : Nat) : Int) < (((digsOf s).length : Nat) : Int))))), (53, (.agg (byteVals zero32).toArray)), (54, (.int .i64 1))] a' ∧ Ext w174 W ∧ Blk W g273 26 (byteVals (((digsOf s).getD k []))) ∧ w174.heap.size ≤ g273 ∧ Blk W g378 26 (byteVals (List.replicate 32 0)) ∧ w174.heap.size ≤ g378 ∧ g273 ≠ g378 ∧ W.ownsRow w174.heap.size 26 32 (.slice A338 ((0 + n110) + 1) c339) ((0 + n110) + 1) (digVals ((pathD (digsOf s) k) ++ ([(digsOf s).getD k []]))) ∧ some g273 ≠ (Value.slice A338 ((0 + n110) + 1) c339).ownBlock ∧ some g378 ≠ (Value.slice A338 ((0 + n110) + 1) c339).ownBlock) ?_ (fun st408 => ?_)
    · skip
      rintro a409 w410 ⟨g378, g273, A338, c339, hF411, hx412, b413, z414, b415, z416, z417, r418, nb419, nb420⟩
      clear hF172
      have z421 := hx412.size
      have z422 := b413.lt
      have z423 := b415.lt
      have z424 := own_form0 r418
      refine any_one (i := 15) (by decide +kernel) rfl ?_
      refine o_store (cells := (byteVals zero32)) hF411 rfl rfl rfl rfl (hF411.get rfl) (hF411.get rfl) b415 ((by kernel_rfl : (Tryd.prog.info? 26).map (·.size) = some 32).trans (congrArg some (byteVals_len (show List.length zero32 = 32 from rfl)).symm)) ((byteVals_len (show List.length (List.replicate 32 0) = _ from List.length_replicate)).trans (byteVals_len (show List.length zero32 = 32 from rfl)).symm) (byteVals_one _) ?_
      intro w425 b426 hg427; have z428 := hg427.size
      refine ⟨fun h => absurd h (by decide), ?_⟩
      refine any_pure (i := 16) (v := (.int .i64 1)) hF411 (by decide +kernel) (by decide +kernel) rfl rfl rfl rfl (fun _ _ _ _ h => h) rfl (fun W => (rn_assign (hF411.get rfl))) ?_
      intro a429 hF430; clear hF411
      refine any_nil (by decide +kernel) ?_
      refine hK173 _ _ ?_
      clear hK173
      refine wp_seq_k (fun K431 hK431 => ?_)
      refine wp_region_lit ?_
      refine wpl_op (i := 0) rfl (o_val (v := (.int .i64 0)) hF430 rfl rfl rfl rfl (rn_move (hF430.get rfl)) ?_)
      intro a432 hF433; clear hF430
      refine wpl_op (i := 1) rfl (o_val (v := (.bool false)) hF433 rfl rfl rfl rfl (rn_neq' (hF433.get rfl) rfl (by decide)) ?_)
      intro a434 hF435; clear hF433
      refine wpl_op (i := 2) rfl (o_val (v := (.bool false)) hF435 rfl rfl rfl rfl (rn_move (hF435.get rfl)) ?_)
      intro a436 hF437; clear hF435
      refine wpl_op (i := 3) rfl (o_val (v := (.int .i64 0)) hF437 rfl (wanted_guard rfl rfl rfl hF437 rfl rfl rfl) rfl rfl (rn_move (hF437.get rfl)) ?_)
      intro a438 hF439; clear hF437
      refine wpl_op (i := 4) rfl (o_val (v := (.bool false)) hF439 rfl (wanted_guard rfl rfl rfl hF439 rfl rfl rfl) rfl rfl (rn_neq' (hF439.get rfl) rfl (by decide)) ?_)
      intro a440 hF441; clear hF439
      refine wpl_op (i := 5) rfl (o_val (v := (.bool false)) hF441 rfl rfl rfl rfl (rn_pickF (c_false hF441 rfl rfl) (hF441.get rfl)) ?_)
      intro a442 hF443; clear hF441
      refine wpl_op (i := 6) rfl (o_val (v := (.bool false)) hF443 rfl rfl rfl rfl (rn_move (hF443.get rfl)) ?_)
      intro a444 hF445; clear hF443
      have b446 : Blk w425 g158 26 (byteVals (treeD (digsOf s))) := (((b167.ext hx175).ext hx412).grownN hg427 (by omega))
      refine wpl_op (i := 7) rfl (o_val (v := (.agg (byteVals (treeD (digsOf s))).toArray)) hF445 rfl (wanted_guard rfl rfl rfl hF445 rfl rfl rfl) rfl rfl (rn_loadBlk (hF445.get rfl) b446 Tryd.underlying26 rfl ((by kernel_rfl : (Tryd.prog.info? 26).map (·.size) = some 32).trans (congrArg some (byteVals_len (treeD_len _)).symm))) ?_)
      intro a447 hF448; clear hF445
      have b449 : Blk w425 g40 26 (byteVals (treeD (digsOf s))) := (((((((((b67.ext hx92).grownN hg101 (by omega)).ext hx117).ext hx148).ext hx161).grownN hg168 (by omega)).ext hx175).ext hx412).grownN hg427 (by omega))
      refine wpl_op (i := 8) rfl (o_val (v := (.agg (byteVals (treeD (digsOf s))).toArray)) hF448 rfl (wanted_guard rfl rfl rfl hF448 rfl rfl rfl) rfl rfl (rn_loadBlk (hF448.get rfl) b449 Tryd.underlying26 rfl ((by kernel_rfl : (Tryd.prog.info? 26).map (·.size) = some 32).trans (congrArg some (byteVals_len (treeD_len _)).symm))) ?_)
      intro a450 hF451; clear hF448
      refine wpl_op (i := 9) rfl (o_val (v := (.bool (!decide (treeD (digsOf s) = treeD (digsOf s))))) hF451 rfl (wanted_guard rfl rfl rfl hF451 rfl rfl rfl) rfl rfl (rn_neA Tryd.underlying26 Tryd.underlying5 (by kernel_rfl : (Tryd.prog.info? 5).map (·.size) = some 1) (by kernel_rfl) (hF451.get rfl) (hF451.get rfl) (treeD_len _) (treeD_len _)) ?_)
      intro a452 hF453; clear hF451
      refine wpl_op (i := 10) rfl (o_val (v := (.bool (!decide (treeD (digsOf s) = treeD (digsOf s))))) hF453 rfl rfl rfl rfl (rn_pickF (c_false hF453 rfl rfl) (hF453.get rfl)) ?_)
      intro a454 hF455; clear hF453
      refine wpl_op (i := 11) rfl (o_val (v := (.bool (!decide (treeD (digsOf s) = treeD (digsOf s))))) hF455 rfl rfl rfl rfl (rn_move (hF455.get rfl)) ?_)
      intro a456 hF457; clear hF455
      refine wpl_op (i := 12) rfl (o_val (v := (.slice A109 n110 c111)) hF457 rfl (wanted_guard rfl rfl rfl hF457 rfl (not_t ((decide_eq_true rfl) : decide (treeD (digsOf s) = treeD (digsOf s)) = true)) rfl) rfl rfl (rn_move (hF457.get rfl)) ?_)
      intro a459 hF460; clear hF457
      refine wpl_op (i := 13) rfl (o_val (v := (.int .i64 (n110 : Nat))) hF460 rfl (wanted_guard rfl rfl rfl hF460 rfl (not_t ((decide_eq_true rfl) : decide (treeD (digsOf s) = treeD (digsOf s)) = true)) rfl) rfl rfl (rn_len_slice Tryd.underlying30 (hF460.get rfl)) ?_)
      intro a461 hF462; clear hF460
      refine wpl_op (i := 14) rfl (o_val (v := (.bool (decide ((5 : Int) < ((n110 : Nat) : Int))))) hF462 rfl (wanted_guard rfl rfl rfl hF462 rfl (not_t ((decide_eq_true rfl) : decide (treeD (digsOf s) = treeD (digsOf s)) = true)) rfl) rfl rfl (rn_gtr (hF462.get rfl) rfl) ?_)
      intro a463 hF464; clear hF462
      refine wpl_op (i := 15) rfl (o_val (v := (.bool (decide ((5 : Int) < ((n110 : Nat) : Int))))) hF464 rfl rfl rfl rfl (rn_pickF (c_false hF464 rfl (not_t ((decide_eq_true rfl) : decide (treeD (digsOf s) = treeD (digsOf s)) = true))) (hF464.get rfl)) ?_)
      intro a465 hF466; clear hF464
      refine wpl_op (i := 16) rfl (o_val (v := (.bool (decide ((5 : Int) < ((n110 : Nat) : Int))))) hF466 rfl rfl rfl rfl (rn_move (hF466.get rfl)) ?_)
      intro a467 hF468; clear hF466
      refine wpl_op (i := 17) rfl (o_val (v := (.int .i64 1)) hF468 rfl (wanted_guard rfl rfl rfl hF468 rfl ((decide_eq_false (by omega)) : decide ((5 : Int) < ((n110 : Nat) : Int)) = false) rfl) rfl rfl (rn_move (hF468.get rfl)) ?_)
      intro a470 hF471; clear hF468
      refine wpl_op (i := 18) rfl (o_val (v := (.bool false)) hF471 rfl (wanted_guard rfl rfl rfl hF471 rfl ((decide_eq_false (by omega)) : decide ((5 : Int) < ((n110 : Nat) : Int)) = false) rfl) rfl rfl (rn_neq' (hF471.get rfl) rfl (by decide)) ?_)
      intro a472 hF473; clear hF471
      refine wpl_op (i := 19) rfl (o_val (v := (.bool false)) hF473 rfl rfl rfl rfl (rn_pickF (c_false hF473 rfl ((decide_eq_false (by omega)) : decide ((5 : Int) < ((n110 : Nat) : Int)) = false)) (hF473.get rfl)) ?_)
      intro a474 hF475; clear hF473
      refine wpList_nil ?_
      refine hK431 _ _ ?_
      clear hK431
      have hF476 := (((((((((((((((((hF475.nil.cons (hF475.get (t := 74) (v := (.bool false)) rfl)).cons (hF475.get (t := 12) (v := (.int .i64 1)) rfl)).cons (hF475.get (t := 22) (v := (.bool (decide (((k : Nat) : Int) < (((digsOf s).length : Nat) : Int))))) rfl)).cons (hF475.get (t := 21) (v := (.int .i64 (k : Nat))) rfl)).cons (hF475.get (t := 20) (v := (.int .i64 ((digsOf s).length : Nat))) rfl)).cons (hF475.get (t := 19) (v := (.slice A17 ((digsOf s).length) c18)) rfl)).cons (hF475.get (t := 14) (v := (.bool false)) rfl)).cons (hF475.get (t := 10) (v := (.int .i64 0)) rfl)).cons (hF475.get (t := 9) (v := (.pointer (some ⟨g158, 0, none⟩))) rfl)).cons (hF475.get (t := 8) (v := (.int .i64 0)) rfl)).cons (hF475.get (t := 7) (v := (.slice A109 n110 c111)) rfl)).cons (hF475.get (t := 6) (v := (.pointer (some ⟨g89, 0, none⟩))) rfl)).cons (hF475.get (t := 5) (v := (.int .i64 (k : Nat))) rfl)).cons (hF475.get (t := 4) (v := (.pointer (some ⟨g40, 0, none⟩))) rfl)).cons (hF475.get (t := 3) (v := (.slice A17 ((digsOf s).length) c18)) rfl)).cons (hF475.get (t := 2) (v := (.bool false)) rfl)).cons (hF475.get (t := 0) (v := (.slice A s.length c)) rfl))
      clear hF475
      refine wp_cond_false (c_false hF476 rfl rfl) ?_
      refine wp_skip ?_
      refine hK78 _ _ ?_
      clear hK78
      refine wp_region_lit ?_
      refine wpl_op (i := 0) rfl (o_val (v := (.int .i64 (k + 1 : Nat))) hF476 rfl rfl rfl rfl (rn_addN (a := k) (b := 1) (hF476.get rfl) rfl (by omega)) ?_)
      intro a477 hF478; clear hF476
      refine wpl_op (i := 1) rfl (o_val (v := (.int .i64 (k + 1 : Nat))) hF478 rfl rfl rfl rfl (rn_move (hF478.get rfl)) ?_)
      intro a479 hF480; clear hF478
      refine wpList_nil ?_
      have d481 := (hf68.pres ((((((((((Pres.refl w63).ext hx92).grownN hg101 (fun h => by simp only [Clip] at h; omega)).ext hx117).ext hx148).ext hx161).grownN hg168 (fun h => by simp only [Clip] at h; omega)).ext hx175).ext hx412).grownN hg427 (fun h => by simp only [Clip] at h; omega)))
      refine ⟨⟨(k + 1), ((((((((hF480.nil.cons (q_get hF480 (t := 21) rfl (by first | rfl | (congr 1; omega) | (congr 1; done)))).cons (q_get hF480 (t := 20) rfl rfl)).cons (q_get hF480 (t := 19) rfl rfl)).cons (q_get hF480 (t := 4) rfl rfl)).cons (q_get hF480 (t := 3) rfl rfl)).cons (q_get hF480 (t := 14) rfl rfl)).cons (q_get hF480 (t := 2) rfl rfl)).cons (q_get hF480 (t := 0) rfl rfl)), (by omega), (((((((((((Ext.refl w).trans hx65).trans hx92).grownN hg101 (by omega)).trans hx117).trans hx148).trans hx161).grownN hg168 (by omega)).trans hx175).trans hx412).grownN hg427 (by omega)), b449, d481, (by omega)⟩, ?_⟩
      rw [hF480.get (t := 21) rfl, hL70.get (t := 21) rfl]; simp [intOf] <;> omega
    refine any_have (n1 := 6) (L1 := #[true, true, true, true, true, true, true, true, true, true, false, false, false, false, true, false, false]) (fun a' W => ∃ (g378 : Nat) (A338 : Option Addr) (c339 : Nat) (g273 : Nat), Sl 76 [(0, (.slice A s.length c)), (2, (.bool false)), (3, (.slice A17 ((digsOf s).length) c18)), (4, (.pointer (some ⟨g40, 0, none⟩))), (5, (.int .i64 (k : Nat))), (6, (.pointer (some ⟨g89, 0, none⟩))), (7, (.slice A109 n110 c111)), (8, (.int .i64 0)), (9, (.pointer (some ⟨g158, 0, none⟩))), (10, (.int .i64 0)), (11, (.pointer (some ⟨g378, 0, none⟩))), (14, (.bool false)), (19, (.slice A17 ((digsOf s).length) c18)), (20, (.int .i64 ((digsOf s).length : Nat))), (21, (.int .i64 (k : Nat))), (22, (.bool (decide (((k : Nat) : Int) < (((digsOf s).length : Nat) : Int))))), (42, (.agg (byteVals ((digsOf s).getD k [])).toArray)), (43, (.int .i64 (k : Nat))), (45, (.int .i64 ((digsOf s).length : Nat))), (51, (.slice A338 ((0 + n110) + 1) c339))] a' ∧ Ext w174 W ∧ Blk W g273 26 (byteVals (((digsOf s).getD k []))) ∧ w174.heap.size ≤ g273 ∧ Blk W g378 26 (byteVals (List.replicate 32 0)) ∧ w174.heap.size ≤ g378 ∧ g273 ≠ g378 ∧ W.ownsRow w174.heap.size 26 32 (.slice A338 ((0 + n110) + 1) c339) ((0 + n110) + 1) (digVals ((pathD (digsOf s) k) ++ ([(digsOf s).getD k []]))) ∧ some g273 ≠ (Value.slice A338 ((0 + n110) + 1) c339).ownBlock ∧ some g378 ≠ (Value.slice A338 ((0 + n110) + 1) c339).ownBlock) ?_ (fun st482 => ?_)
    · skip
      rintro a483 w484 ⟨g378, A338, c339, g273, hF485, hx486, b487, z488, b489, z490, z491, r492, nb493, nb494⟩
      clear hF172
      have z495 := hx486.size
      have z496 := b487.lt
      have z497 := b489.lt
      have z498 := own_form0 r492
      refine any_one (i := 10) (by decide +kernel) rfl ?_
      refine o_call hF485 rfl rfl rfl rfl (rn_call (args4 (hF485.get rfl) (hF485.get rfl) (hF485.get rfl) (hF485.get rfl)) rfl (by kernel_rfl)) (climb_at ((digsOf s).getD k []) ((k : Nat) : Int) (((digsOf s).length : Nat) : Int) ((pathD (digsOf s) k) ++ ([(digsOf s).getD k []])) _ (v := (.slice A338 ((0 + n110) + 1) c339)) (m := (0 + n110) + 1) (dig_len (digsOf_32 _) k (by omega)) (All32.app (pathD_32 _ _ _ (Nat.le_refl _)) (All32.sing (dig_len (digsOf_32 _) k (by omega)))) (Fl.own (S := fun b => w174.heap.size ≤ b) r492 (fun b hb => hb) (digVals_one _)) (hG.ext ((((((((((Ext.refl w).trans hx65).trans hx92).grownN hg101 (by omega)).trans hx117).trans hx148).trans hx161).grownN hg168 (by omega)).trans hx175).trans hx486))) ?_
      rw [climb_out]
      rintro _ w499 ⟨rfl, hx500⟩
      refine ⟨_, rfl, ?_⟩; intro a501 hF502; clear hF485; have z503 := hx500.size
      have b504 : Blk w499 g89 26 (byteVals ((digsOf s).getD k [])) := ((((((b136.ext hx148).ext hx161).grownN hg168 (by omega)).ext hx175).ext hx486).ext hx500)
      refine ⟨fun _ _ => ⟨(((Ext.refl w174).trans hx486).trans hx500), b504⟩, ?_⟩
      refine any_pure (i := 11) (v := (.tuple #[(.agg (byteVals zero32).toArray), (.int .i64 1)])) hF502 (by decide +kernel) (by decide +kernel) rfl rfl rfl rfl (fun _ _ _ _ h => h) rfl (fun W => (rn_move (hF502.get rfl))) ?_
      intro a505 hF506; clear hF502
      refine any_pure (i := 12) (v := (.agg (byteVals zero32).toArray)) hF506 (by decide +kernel) (by decide +kernel) rfl rfl rfl rfl (fun _ _ _ _ h => h) rfl (fun W => (rn_extract (hF506.get rfl) rfl)) ?_
      intro a507 hF508; clear hF506
      refine any_pure (i := 13) (v := (.int .i64 1)) hF508 (by decide +kernel) (by decide +kernel) rfl rfl rfl rfl (fun _ _ _ _ h => h) rfl (fun W => (rn_extract (hF508.get rfl) rfl)) ?_
      intro a509 hF510; clear hF508
      have b511 : Blk w499 g273 26 (byteVals (((digsOf s).getD k []))) := (b487.ext hx500)
      have b512 : Blk w499 g378 26 (byteVals (List.replicate 32 0)) := (b489.ext hx500)
      have r513 := (own_ext r492 hx500)
      exact st408 _ _ ⟨g378, g273, A338, c339, ((((((((((((((((((hF510.nil.cons (hF510.get (t := 54) (v := (.int .i64 1)) rfl)).cons (hF510.get (t := 53) (v := (.agg (byteVals zero32).toArray)) rfl)).cons (hF510.get (t := 22) (v := (.bool (decide (((k : Nat) : Int) < (((digsOf s).length : Nat) : Int))))) rfl)).cons (hF510.get (t := 21) (v := (.int .i64 (k : Nat))) rfl)).cons (hF510.get (t := 20) (v := (.int .i64 ((digsOf s).length : Nat))) rfl)).cons (hF510.get (t := 19) (v := (.slice A17 ((digsOf s).length) c18)) rfl)).cons (hF510.get (t := 14) (v := (.bool false)) rfl)).cons (hF510.get (t := 11) (v := (.pointer (some ⟨g378, 0, none⟩))) rfl)).cons (hF510.get (t := 10) (v := (.int .i64 0)) rfl)).cons (hF510.get (t := 9) (v := (.pointer (some ⟨g158, 0, none⟩))) rfl)).cons (hF510.get (t := 8) (v := (.int .i64 0)) rfl)).cons (hF510.get (t := 7) (v := (.slice A109 n110 c111)) rfl)).cons (hF510.get (t := 6) (v := (.pointer (some ⟨g89, 0, none⟩))) rfl)).cons (hF510.get (t := 5) (v := (.int .i64 (k : Nat))) rfl)).cons (hF510.get (t := 4) (v := (.pointer (some ⟨g40, 0, none⟩))) rfl)).cons (hF510.get (t := 3) (v := (.slice A17 ((digsOf s).length) c18)) rfl)).cons (hF510.get (t := 2) (v := (.bool false)) rfl)).cons (hF510.get (t := 0) (v := (.slice A s.length c)) rfl)), (((Ext.refl w174).trans hx486).trans hx500), b511, (by omega), b512, (by omega), (by omega), (own_base r513 (by omega)), nb493, nb494⟩
    refine any_have (n1 := 7) (L1 := #[true, true, true, true, true, true, true, true, true, false, false, false, false, false, true, false, false]) (fun a' W => ∃ (g210 : Nat) (A305 : Option Addr) (c306 : Nat) (g228 : Nat), Sl 76 [(0, (.slice A s.length c)), (2, (.bool false)), (3, (.slice A17 ((digsOf s).length) c18)), (4, (.pointer (some ⟨g40, 0, none⟩))), (5, (.int .i64 (k : Nat))), (6, (.pointer (some ⟨g89, 0, none⟩))), (7, (.slice A109 n110 c111)), (8, (.int .i64 0)), (9, (.pointer (some ⟨g158, 0, none⟩))), (10, (.int .i64 0)), (11, (.pointer (some ⟨g210, 0, none⟩))), (14, (.bool false)), (19, (.slice A17 ((digsOf s).length) c18)), (20, (.int .i64 ((digsOf s).length : Nat))), (21, (.int .i64 (k : Nat))), (22, (.bool (decide (((k : Nat) : Int) < (((digsOf s).length : Nat) : Int))))), (42, (.agg (byteVals ((digsOf s).getD k [])).toArray)), (43, (.int .i64 (k : Nat))), (45, (.int .i64 ((digsOf s).length : Nat))), (48, (.slice A305 (0 + n110) c306)), (50, (.slice (some ⟨g228, 0, none⟩) 1 1))] a' ∧ Ext w174 W ∧ Blk W g228 26 (byteVals (((digsOf s).getD k []))) ∧ w174.heap.size ≤ g228 ∧ Blk W g210 26 (byteVals (List.replicate 32 0)) ∧ w174.heap.size ≤ g210 ∧ g228 ≠ g210 ∧ W.ownsRow w174.heap.size 26 32 (.slice A305 (0 + n110) c306) (0 + n110) (digVals (pathD (digsOf s) k)) ∧ some g228 ≠ (Value.slice A305 (0 + n110) c306).ownBlock ∧ some g210 ≠ (Value.slice A305 (0 + n110) c306).ownBlock) ?_ (fun st514 => ?_)
    · skip
      rintro a515 w516 ⟨g210, A305, c306, g228, hF517, hx518, b519, z520, b521, z522, z523, r524, nb525, nb526⟩
      clear hF172
      have z527 := hx518.size
      have z528 := b519.lt
      have z529 := b521.lt
      have z530 := own_form0 r524
      refine any_one (i := 9) (by decide +kernel) rfl ?_
      have hf539 := r524
      have b540 : Blk w516 g40 26 (byteVals (treeD (digsOf s))) := ((((((((b67.ext hx92).grownN hg101 (by omega)).ext hx117).ext hx148).ext hx161).grownN hg168 (by omega)).ext hx175).ext hx518)
      have nb541 : some g40 ≠ (Value.slice A305 (0 + n110) c306).ownBlock := (own_ne r524 (by omega : g40 < w174.heap.size))
      have z542 := b540.lt
      have b543 : Blk w516 g89 26 (byteVals ((digsOf s).getD k [])) := (((((b136.ext hx148).ext hx161).grownN hg168 (by omega)).ext hx175).ext hx518)
      have nb544 : some g89 ≠ (Value.slice A305 (0 + n110) c306).ownBlock := (own_ne r524 (by omega : g89 < w174.heap.size))
      have z545 := b543.lt
      have b546 : Blk w516 g158 26 (byteVals (treeD (digsOf s))) := ((b167.ext hx175).ext hx518)
      have nb547 : some g158 ≠ (Value.slice A305 (0 + n110) c306).ownBlock := (own_ne r524 (by omega : g158 < w174.heap.size))
      have z548 := b546.lt
      have nb549 : some g228 ≠ (Value.slice A305 (0 + n110) c306).ownBlock := nb525
      have z550 := b519.lt
      have nb551 : some g210 ≠ (Value.slice A305 (0 + n110) c306).ownBlock := nb526
      have z552 := b521.lt
      refine o_appB (zs := digVals ((pathD (digsOf s) k) ++ ([(digsOf s).getD k []]))) El30 hF517 rfl rfl rfl rfl rfl (hF517.get rfl) (hF517.get rfl) hf539 (Fl.cel (Fl.digblk (S := fun b => b = g228) b519 (All32.sing (dig_len (digsOf_32 _) k (by omega))) (by simp [digVals, byteVals]))).2.2 (by omega) (by omega) (by omega) (digVals_app _ _) ?_
      intro A531 c532 w533 a553 hF554 r534 hg535 z536 z537 hnb538; clear hF517; have z555 := hg535.size
      have nb556 := hnb538 g40 (by omega) nb541
      have nb557 := hnb538 g89 (by omega) nb544
      have nb558 := hnb538 g158 (by omega) nb547
      have nb559 := hnb538 g228 (by omega) nb549
      have nb560 := hnb538 g210 (by omega) nb551
      have b561 : Blk w533 g89 26 (byteVals ((digsOf s).getD k [])) := (b543.grown hg535 nb544)
      refine ⟨fun _ _ => ⟨(ext_row ((Ext.refl w174).trans hx518) hg535 hf539 (by omega)), b561⟩, ?_⟩
      have b562 : Blk w533 g228 26 (byteVals (((digsOf s).getD k []))) := (b519.grown hg535 nb549)
      have b563 : Blk w533 g210 26 (byteVals (List.replicate 32 0)) := (b521.grown hg535 nb551)
      exact st482 _ _ ⟨g210, A531, c532, g228, ((((((((((((((((((((hF554.nil.cons (hF554.get (t := 51) (v := (.slice A531 ((0 + n110) + 1) c532)) rfl)).cons (hF554.get (t := 45) (v := (.int .i64 ((digsOf s).length : Nat))) rfl)).cons (hF554.get (t := 43) (v := (.int .i64 (k : Nat))) rfl)).cons (hF554.get (t := 42) (v := (.agg (byteVals ((digsOf s).getD k [])).toArray)) rfl)).cons (hF554.get (t := 22) (v := (.bool (decide (((k : Nat) : Int) < (((digsOf s).length : Nat) : Int))))) rfl)).cons (hF554.get (t := 21) (v := (.int .i64 (k : Nat))) rfl)).cons (hF554.get (t := 20) (v := (.int .i64 ((digsOf s).length : Nat))) rfl)).cons (hF554.get (t := 19) (v := (.slice A17 ((digsOf s).length) c18)) rfl)).cons (hF554.get (t := 14) (v := (.bool false)) rfl)).cons (hF554.get (t := 11) (v := (.pointer (some ⟨g210, 0, none⟩))) rfl)).cons (hF554.get (t := 10) (v := (.int .i64 0)) rfl)).cons (hF554.get (t := 9) (v := (.pointer (some ⟨g158, 0, none⟩))) rfl)).cons (hF554.get (t := 8) (v := (.int .i64 0)) rfl)).cons (hF554.get (t := 7) (v := (.slice A109 n110 c111)) rfl)).cons (hF554.get (t := 6) (v := (.pointer (some ⟨g89, 0, none⟩))) rfl)).cons (hF554.get (t := 5) (v := (.int .i64 (k : Nat))) rfl)).cons (hF554.get (t := 4) (v := (.pointer (some ⟨g40, 0, none⟩))) rfl)).cons (hF554.get (t := 3) (v := (.slice A17 ((digsOf s).length) c18)) rfl)).cons (hF554.get (t := 2) (v := (.bool false)) rfl)).cons (hF554.get (t := 0) (v := (.slice A s.length c)) rfl)), (ext_row ((Ext.refl w174).trans hx518) hg535 hf539 (by omega)), b562, (by omega), b563, (by omega), (by omega), (own_base r534 (by omega)), nb559, nb560⟩
    refine any_have (n1 := 8) (L1 := #[true, true, true, true, true, true, false, true, true, false, false, false, false, false, true, false, false]) (fun a' W => ∃ (g210 : Nat) (g294 : Nat) (g228 : Nat), Sl 76 [(0, (.slice A s.length c)), (2, (.bool false)), (3, (.slice A17 ((digsOf s).length) c18)), (4, (.pointer (some ⟨g40, 0, none⟩))), (5, (.int .i64 (k : Nat))), (6, (.pointer (some ⟨g89, 0, none⟩))), (7, (.slice A109 n110 c111)), (8, (.int .i64 0)), (9, (.pointer (some ⟨g158, 0, none⟩))), (10, (.int .i64 0)), (11, (.pointer (some ⟨g210, 0, none⟩))), (14, (.bool false)), (19, (.slice A17 ((digsOf s).length) c18)), (20, (.int .i64 ((digsOf s).length : Nat))), (21, (.int .i64 (k : Nat))), (22, (.bool (decide (((k : Nat) : Int) < (((digsOf s).length : Nat) : Int))))), (42, (.agg (byteVals ((digsOf s).getD k [])).toArray)), (43, (.int .i64 (k : Nat))), (45, (.int .i64 ((digsOf s).length : Nat))), (46, (.slice (some ⟨g294, 0, none⟩) 0 0)), (47, (.slice A109 n110 c111)), (50, (.slice (some ⟨g228, 0, none⟩) 1 1))] a' ∧ Ext w174 W ∧ Blk W g294 26 [] ∧ w174.heap.size ≤ g294 ∧ Blk W g228 26 (byteVals (((digsOf s).getD k []))) ∧ w174.heap.size ≤ g228 ∧ Blk W g210 26 (byteVals (List.replicate 32 0)) ∧ w174.heap.size ≤ g210 ∧ g294 ≠ g228 ∧ g294 ≠ g210 ∧ g228 ≠ g210) ?_ (fun st564 => ?_)
    · skip
      rintro a565 w566 ⟨g210, g294, g228, hF567, hx568, b569, z570, b571, z572, b573, z574, z575, z576, z577⟩
      clear hF172
      have z578 := hx568.size
      have z579 := b569.lt
      have z580 := b571.lt
      have z581 := b573.lt
      refine any_one (i := 6) (by decide +kernel) rfl ?_
      have d583 := (hf123.pres ((((((Pres.refl w116).ext hx148).ext hx161).grownN hg168 (fun h => by simp only [Clip] at h; omega)).ext hx175).ext hx568))
      have hf592 := (own_blk0 (k := 32) b569)
      have b593 : Blk w566 g40 26 (byteVals (treeD (digsOf s))) := ((((((((b67.ext hx92).grownN hg101 (by omega)).ext hx117).ext hx148).ext hx161).grownN hg168 (by omega)).ext hx175).ext hx568)
      have nb594 : some g40 ≠ (Value.slice (some ⟨g294, 0, none⟩) 0 0).ownBlock := (ne_slice (n := 0) (c := 0) (by omega : g40 ≠ g294))
      have z595 := b593.lt
      have b596 : Blk w566 g89 26 (byteVals ((digsOf s).getD k [])) := (((((b136.ext hx148).ext hx161).grownN hg168 (by omega)).ext hx175).ext hx568)
      have nb597 : some g89 ≠ (Value.slice (some ⟨g294, 0, none⟩) 0 0).ownBlock := (ne_slice (n := 0) (c := 0) (by omega : g89 ≠ g294))
      have z598 := b596.lt
      have b599 : Blk w566 g158 26 (byteVals (treeD (digsOf s))) := ((b167.ext hx175).ext hx568)
      have nb600 : some g158 ≠ (Value.slice (some ⟨g294, 0, none⟩) 0 0).ownBlock := (ne_slice (n := 0) (c := 0) (by omega : g158 ≠ g294))
      have z601 := b599.lt
      have nb602 : some g228 ≠ (Value.slice (some ⟨g294, 0, none⟩) 0 0).ownBlock := (ne_slice (n := 0) (c := 0) (by omega : g228 ≠ g294))
      have z603 := b571.lt
      have nb604 : some g210 ≠ (Value.slice (some ⟨g294, 0, none⟩) 0 0).ownBlock := (ne_slice (n := 0) (c := 0) (by omega : g210 ≠ g294))
      have z605 := b573.lt
      refine o_appB (zs := digVals (pathD (digsOf s) k)) El30 hF567 rfl rfl rfl rfl rfl (hF567.get rfl) (hF567.get rfl) hf592 (Fl.cel d583).2.2 (by omega) (by omega) (by omega) (List.nil_append _) ?_
      intro A584 c585 w586 a606 hF607 r587 hg588 z589 z590 hnb591; clear hF567; have z608 := hg588.size
      have nb609 := hnb591 g40 (by omega) nb594
      have nb610 := hnb591 g89 (by omega) nb597
      have nb611 := hnb591 g158 (by omega) nb600
      have nb612 := hnb591 g228 (by omega) nb602
      have nb613 := hnb591 g210 (by omega) nb604
      have b614 : Blk w586 g89 26 (byteVals ((digsOf s).getD k [])) := (b596.grown hg588 nb597)
      refine ⟨fun _ _ => ⟨(ext_row ((Ext.refl w174).trans hx568) hg588 hf592 (by omega)), b614⟩, ?_⟩
      have b615 : Blk w586 g228 26 (byteVals (((digsOf s).getD k []))) := (b571.grown hg588 nb602)
      have b616 : Blk w586 g210 26 (byteVals (List.replicate 32 0)) := (b573.grown hg588 nb604)
      exact st514 _ _ ⟨g210, A584, c585, g228, (((((((((((((((((((((hF607.nil.cons (hF607.get (t := 50) (v := (.slice (some ⟨g228, 0, none⟩) 1 1)) rfl)).cons (hF607.get (t := 48) (v := (.slice A584 (0 + n110) c585)) rfl)).cons (hF607.get (t := 45) (v := (.int .i64 ((digsOf s).length : Nat))) rfl)).cons (hF607.get (t := 43) (v := (.int .i64 (k : Nat))) rfl)).cons (hF607.get (t := 42) (v := (.agg (byteVals ((digsOf s).getD k [])).toArray)) rfl)).cons (hF607.get (t := 22) (v := (.bool (decide (((k : Nat) : Int) < (((digsOf s).length : Nat) : Int))))) rfl)).cons (hF607.get (t := 21) (v := (.int .i64 (k : Nat))) rfl)).cons (hF607.get (t := 20) (v := (.int .i64 ((digsOf s).length : Nat))) rfl)).cons (hF607.get (t := 19) (v := (.slice A17 ((digsOf s).length) c18)) rfl)).cons (hF607.get (t := 14) (v := (.bool false)) rfl)).cons (hF607.get (t := 11) (v := (.pointer (some ⟨g210, 0, none⟩))) rfl)).cons (hF607.get (t := 10) (v := (.int .i64 0)) rfl)).cons (hF607.get (t := 9) (v := (.pointer (some ⟨g158, 0, none⟩))) rfl)).cons (hF607.get (t := 8) (v := (.int .i64 0)) rfl)).cons (hF607.get (t := 7) (v := (.slice A109 n110 c111)) rfl)).cons (hF607.get (t := 6) (v := (.pointer (some ⟨g89, 0, none⟩))) rfl)).cons (hF607.get (t := 5) (v := (.int .i64 (k : Nat))) rfl)).cons (hF607.get (t := 4) (v := (.pointer (some ⟨g40, 0, none⟩))) rfl)).cons (hF607.get (t := 3) (v := (.slice A17 ((digsOf s).length) c18)) rfl)).cons (hF607.get (t := 2) (v := (.bool false)) rfl)).cons (hF607.get (t := 0) (v := (.slice A s.length c)) rfl)), (ext_row ((Ext.refl w174).trans hx568) hg588 hf592 (by omega)), b615, (by omega), b616, (by omega), (by omega), (own_base r587 (by omega)), nb612, nb613⟩
    refine any_have (n1 := 8) (L1 := #[true, true, true, true, true, true, true, true, false, false, false, false, false, false, true, false, false]) (fun a' W => ∃ (g284 : Nat) (A248 : Option Addr) (c249 : Nat), Sl 76 [(0, (.slice A s.length c)), (2, (.bool false)), (3, (.slice A17 ((digsOf s).length) c18)), (4, (.pointer (some ⟨g40, 0, none⟩))), (5, (.int .i64 (k : Nat))), (6, (.pointer (some ⟨g89, 0, none⟩))), (7, (.slice A109 n110 c111)), (8, (.int .i64 0)), (9, (.pointer (some ⟨g158, 0, none⟩))), (10, (.int .i64 0)), (11, (.pointer (some ⟨g284, 0, none⟩))), (14, (.bool false)), (19, (.slice A17 ((digsOf s).length) c18)), (20, (.int .i64 ((digsOf s).length : Nat))), (21, (.int .i64 (k : Nat))), (22, (.bool (decide (((k : Nat) : Int) < (((digsOf s).length : Nat) : Int))))), (42, (.agg (byteVals ((digsOf s).getD k [])).toArray)), (43, (.int .i64 (k : Nat))), (45, (.int .i64 ((digsOf s).length : Nat))), (48, (.slice A248 (0 + n110) c249)), (49, (.agg (byteVals ((digsOf s).getD k [])).toArray))] a' ∧ Ext w174 W ∧ Blk W g284 26 (byteVals (List.replicate 32 0)) ∧ w174.heap.size ≤ g284 ∧ W.ownsRow w174.heap.size 26 32 (.slice A248 (0 + n110) c249) (0 + n110) (digVals (pathD (digsOf s) k)) ∧ some g284 ≠ (Value.slice A248 (0 + n110) c249).ownBlock) ?_ (fun st617 => ?_)
    · skip
      rintro a618 w619 ⟨g284, A248, c249, hF620, hx621, b622, z623, r624, nb625⟩
      clear hF172
      have z626 := hx621.size
      have z627 := b622.lt
      have z628 := own_form0 r624
      refine any_one (i := 8) (by decide +kernel) rfl ?_
      have hf629 := r624
      refine o_new (fun g => (.slice (some ⟨g, 0, none⟩) 1 1)) (byteVals (((digsOf s).getD k []))) 26 hF620 rfl rfl rfl rfl (rn_buildSlice (parts1 (hF620.get rfl)) (build_wholeE (vs := [(.agg (byteVals ((digsOf s).getD k [])).toArray)]) El30 rfl rfl (fun v hv => by rw [List.mem_singleton.1 hv]; exact (byteVals_len (dig_len (digsOf_32 _) k (by omega)))) (by decide) (by decide) (by simp [Value.cells, byteVals]))) ?_
      intro g630 w631 a636 hF637 z634 z635 b632 hx633; clear hF620
      have nb638 := own_new (g := g630) hf629 (by omega)
      have b639 : Blk w631 g89 26 (byteVals ((digsOf s).getD k [])) := ((((((b136.ext hx148).ext hx161).grownN hg168 (by omega)).ext hx175).ext hx621).ext hx633)
      refine ⟨fun _ _ => ⟨(((Ext.refl w174).trans hx621).trans hx633), b639⟩, ?_⟩
      have b640 : Blk w631 g284 26 (byteVals (List.replicate 32 0)) := (b622.ext hx633)
      have r641 := (own_ext r624 hx633)
      exact st514 _ _ ⟨g284, A248, c249, g630, (((((((((((((((((((((hF637.nil.cons (hF637.get (t := 50) (v := (.slice (some ⟨g630, 0, none⟩) 1 1)) rfl)).cons (hF637.get (t := 48) (v := (.slice A248 (0 + n110) c249)) rfl)).cons (hF637.get (t := 45) (v := (.int .i64 ((digsOf s).length : Nat))) rfl)).cons (hF637.get (t := 43) (v := (.int .i64 (k : Nat))) rfl)).cons (hF637.get (t := 42) (v := (.agg (byteVals ((digsOf s).getD k [])).toArray)) rfl)).cons (hF637.get (t := 22) (v := (.bool (decide (((k : Nat) : Int) < (((digsOf s).length : Nat) : Int))))) rfl)).cons (hF637.get (t := 21) (v := (.int .i64 (k : Nat))) rfl)).cons (hF637.get (t := 20) (v := (.int .i64 ((digsOf s).length : Nat))) rfl)).cons (hF637.get (t := 19) (v := (.slice A17 ((digsOf s).length) c18)) rfl)).cons (hF637.get (t := 14) (v := (.bool false)) rfl)).cons (hF637.get (t := 11) (v := (.pointer (some ⟨g284, 0, none⟩))) rfl)).cons (hF637.get (t := 10) (v := (.int .i64 0)) rfl)).cons (hF637.get (t := 9) (v := (.pointer (some ⟨g158, 0, none⟩))) rfl)).cons (hF637.get (t := 8) (v := (.int .i64 0)) rfl)).cons (hF637.get (t := 7) (v := (.slice A109 n110 c111)) rfl)).cons (hF637.get (t := 6) (v := (.pointer (some ⟨g89, 0, none⟩))) rfl)).cons (hF637.get (t := 5) (v := (.int .i64 (k : Nat))) rfl)).cons (hF637.get (t := 4) (v := (.pointer (some ⟨g40, 0, none⟩))) rfl)).cons (hF637.get (t := 3) (v := (.slice A17 ((digsOf s).length) c18)) rfl)).cons (hF637.get (t := 2) (v := (.bool false)) rfl)).cons (hF637.get (t := 0) (v := (.slice A s.length c)) rfl)), (((Ext.refl w174).trans hx621).trans hx633), b632, (by omega), b640, (by omega), (by omega), (own_base r641 (by omega)), nb638, nb625⟩
    refine any_have (n1 := 8) (L1 := #[true, true, true, true, true, true, true, true, true, false, false, false, false, false, false, false, false]) (fun a' W => ∃ (A248 : Option Addr) (c249 : Nat) (g273 : Nat), Sl 76 [(0, (.slice A s.length c)), (2, (.bool false)), (3, (.slice A17 ((digsOf s).length) c18)), (4, (.pointer (some ⟨g40, 0, none⟩))), (5, (.int .i64 (k : Nat))), (6, (.pointer (some ⟨g89, 0, none⟩))), (7, (.slice A109 n110 c111)), (8, (.int .i64 0)), (9, (.pointer (some ⟨g158, 0, none⟩))), (10, (.int .i64 0)), (14, (.bool false)), (19, (.slice A17 ((digsOf s).length) c18)), (20, (.int .i64 ((digsOf s).length : Nat))), (21, (.int .i64 (k : Nat))), (22, (.bool (decide (((k : Nat) : Int) < (((digsOf s).length : Nat) : Int))))), (42, (.agg (byteVals ((digsOf s).getD k [])).toArray)), (43, (.int .i64 (k : Nat))), (45, (.int .i64 ((digsOf s).length : Nat))), (48, (.slice A248 (0 + n110) c249)), (50, (.slice (some ⟨g273, 0, none⟩) 1 1))] a' ∧ Ext w174 W ∧ Blk W g273 26 (byteVals (((digsOf s).getD k []))) ∧ w174.heap.size ≤ g273 ∧ W.ownsRow w174.heap.size 26 32 (.slice A248 (0 + n110) c249) (0 + n110) (digVals (pathD (digsOf s) k)) ∧ some g273 ≠ (Value.slice A248 (0 + n110) c249).ownBlock) ?_ (fun st642 => ?_)
    · skip
      rintro a643 w644 ⟨A248, c249, g273, hF645, hx646, b647, z648, r649, nb650⟩
      clear hF172
      have z651 := hx646.size
      have z652 := b647.lt
      have z653 := own_form0 r649
      refine any_two (i := 9) (k := 14) (by decide +kernel) rfl rfl ?_ ?_
      · skip
        have hf662 := r649
        have b663 : Blk w644 g40 26 (byteVals (treeD (digsOf s))) := ((((((((b67.ext hx92).grownN hg101 (by omega)).ext hx117).ext hx148).ext hx161).grownN hg168 (by omega)).ext hx175).ext hx646)
        have nb664 : some g40 ≠ (Value.slice A248 (0 + n110) c249).ownBlock := (own_ne r649 (by omega : g40 < w174.heap.size))
        have z665 := b663.lt
        have b666 : Blk w644 g89 26 (byteVals ((digsOf s).getD k [])) := (((((b136.ext hx148).ext hx161).grownN hg168 (by omega)).ext hx175).ext hx646)
        have nb667 : some g89 ≠ (Value.slice A248 (0 + n110) c249).ownBlock := (own_ne r649 (by omega : g89 < w174.heap.size))
        have z668 := b666.lt
        have b669 : Blk w644 g158 26 (byteVals (treeD (digsOf s))) := ((b167.ext hx175).ext hx646)
        have nb670 : some g158 ≠ (Value.slice A248 (0 + n110) c249).ownBlock := (own_ne r649 (by omega : g158 < w174.heap.size))
        have z671 := b669.lt
        have nb672 : some g273 ≠ (Value.slice A248 (0 + n110) c249).ownBlock := nb650
        have z673 := b647.lt
        refine o_appB (zs := digVals ((pathD (digsOf s) k) ++ ([(digsOf s).getD k []]))) El30 hF645 rfl rfl rfl rfl rfl (hF645.get rfl) (hF645.get rfl) hf662 (Fl.cel (Fl.digblk (S := fun b => b = g273) b647 (All32.sing (dig_len (digsOf_32 _) k (by omega))) (by simp [digVals, byteVals]))).2.2 (by omega) (by omega) (by omega) (digVals_app _ _) ?_
        intro A654 c655 w656 a674 hF675 r657 hg658 z659 z660 hnb661; clear hF645; have z676 := hg658.size
        have nb677 := hnb661 g40 (by omega) nb664
        have nb678 := hnb661 g89 (by omega) nb667
        have nb679 := hnb661 g158 (by omega) nb670
        have nb680 := hnb661 g273 (by omega) nb672
        have b681 : Blk w656 g89 26 (byteVals ((digsOf s).getD k [])) := (b666.grown hg658 nb667)
        refine ⟨fun _ _ => ⟨(ext_row ((Ext.refl w174).trans hx646) hg658 hf662 (by omega)), b681⟩, ?_⟩
        refine any_two (i := 10) (k := 14) (by decide +kernel) rfl rfl ?_ ?_
        · skip
          refine o_call hF675 rfl rfl rfl rfl (rn_call (args4 (hF675.get rfl) (hF675.get rfl) (hF675.get rfl) (hF675.get rfl)) rfl (by kernel_rfl)) (climb_at ((digsOf s).getD k []) ((k : Nat) : Int) (((digsOf s).length : Nat) : Int) ((pathD (digsOf s) k) ++ ([(digsOf s).getD k []])) _ (v := (.slice A654 ((0 + n110) + 1) c655)) (m := (0 + n110) + 1) (dig_len (digsOf_32 _) k (by omega)) (All32.app (pathD_32 _ _ _ (Nat.le_refl _)) (All32.sing (dig_len (digsOf_32 _) k (by omega)))) (Fl.own (S := fun b => w174.heap.size ≤ b) r657 (fun b hb => hb) (digVals_one _)) (hG.ext (ext_row ((((((((((Ext.refl w).trans hx65).trans hx92).grownN hg101 (by omega)).trans hx117).trans hx148).trans hx161).grownN hg168 (by omega)).trans hx175).trans hx646) hg658 hf662 (by omega)))) ?_
          rw [climb_out]
          rintro _ w682 ⟨rfl, hx683⟩
          refine ⟨_, rfl, ?_⟩; intro a684 hF685; clear hF675; have z686 := hx683.size
          have b687 : Blk w682 g89 26 (byteVals ((digsOf s).getD k [])) := (b681.ext hx683)
          refine ⟨fun _ _ => ⟨((ext_row ((Ext.refl w174).trans hx646) hg658 hf662 (by omega)).trans hx683), b687⟩, ?_⟩
          refine any_pure (i := 11) (v := (.tuple #[(.agg (byteVals zero32).toArray), (.int .i64 1)])) hF685 (by decide +kernel) (by decide +kernel) rfl rfl rfl rfl (fun _ _ _ _ h => h) rfl (fun W => (rn_move (hF685.get rfl))) ?_
          intro a688 hF689; clear hF685
          refine any_pure (i := 12) (v := (.agg (byteVals zero32).toArray)) hF689 (by decide +kernel) (by decide +kernel) rfl rfl rfl rfl (fun _ _ _ _ h => h) rfl (fun W => (rn_extract (hF689.get rfl) rfl)) ?_
          intro a690 hF691; clear hF689
          refine any_pure (i := 13) (v := (.int .i64 1)) hF691 (by decide +kernel) (by decide +kernel) rfl rfl rfl rfl (fun _ _ _ _ h => h) rfl (fun W => (rn_extract (hF691.get rfl) rfl)) ?_
          intro a692 hF693; clear hF691
          refine any_one (i := 14) (by decide +kernel) rfl ?_
          have r694 := (own_ext r657 hx683)
          have hf695 := r694
          refine o_new (fun g => (.pointer (some ⟨g, 0, none⟩))) (byteVals (List.replicate 32 0)) 26 hF693 rfl rfl rfl rfl (by kernel_rfl) ?_
          intro g696 w697 a702 hF703 z700 z701 b698 hx699; clear hF693
          have nb704 := own_new (g := g696) hf695 (by omega)
          have b705 : Blk w697 g89 26 (byteVals ((digsOf s).getD k [])) := (b687.ext hx699)
          refine ⟨fun _ _ => ⟨(((ext_row ((Ext.refl w174).trans hx646) hg658 hf662 (by omega)).trans hx683).trans hx699), b705⟩, ?_⟩
          have b706 : Blk w697 g273 26 (byteVals (((digsOf s).getD k []))) := (((b647.grown hg658 nb672).ext hx683).ext hx699)
          have r707 := (own_ext r694 hx699)
          exact st408 _ _ ⟨g696, g273, A654, c655, ((((((((((((((((((hF703.nil.cons (hF703.get (t := 54) (v := (.int .i64 1)) rfl)).cons (hF703.get (t := 53) (v := (.agg (byteVals zero32).toArray)) rfl)).cons (hF703.get (t := 22) (v := (.bool (decide (((k : Nat) : Int) < (((digsOf s).length : Nat) : Int))))) rfl)).cons (hF703.get (t := 21) (v := (.int .i64 (k : Nat))) rfl)).cons (hF703.get (t := 20) (v := (.int .i64 ((digsOf s).length : Nat))) rfl)).cons (hF703.get (t := 19) (v := (.slice A17 ((digsOf s).length) c18)) rfl)).cons (hF703.get (t := 14) (v := (.bool false)) rfl)).cons (hF703.get (t := 11) (v := (.pointer (some ⟨g696, 0, none⟩))) rfl)).cons (hF703.get (t := 10) (v := (.int .i64 0)) rfl)).cons (hF703.get (t := 9) (v := (.pointer (some ⟨g158, 0, none⟩))) rfl)).cons (hF703.get (t := 8) (v := (.int .i64 0)) rfl)).cons (hF703.get (t := 7) (v := (.slice A109 n110 c111)) rfl)).cons (hF703.get (t := 6) (v := (.pointer (some ⟨g89, 0, none⟩))) rfl)).cons (hF703.get (t := 5) (v := (.int .i64 (k : Nat))) rfl)).cons (hF703.get (t := 4) (v := (.pointer (some ⟨g40, 0, none⟩))) rfl)).cons (hF703.get (t := 3) (v := (.slice A17 ((digsOf s).length) c18)) rfl)).cons (hF703.get (t := 2) (v := (.bool false)) rfl)).cons (hF703.get (t := 0) (v := (.slice A s.length c)) rfl)), (((ext_row ((Ext.refl w174).trans hx646) hg658 hf662 (by omega)).trans hx683).trans hx699), b706, (by omega), b698, (by omega), (by omega), (own_base r707 (by omega)), nb680, nb704⟩
        · skip
          have hf708 := r657
          refine o_new (fun g => (.pointer (some ⟨g, 0, none⟩))) (byteVals (List.replicate 32 0)) 26 hF675 rfl rfl rfl rfl (by kernel_rfl) ?_
          intro g709 w710 a715 hF716 z713 z714 b711 hx712; clear hF675
          have nb717 := own_new (g := g709) hf708 (by omega)
          have b718 : Blk w710 g89 26 (byteVals ((digsOf s).getD k [])) := (b681.ext hx712)
          refine ⟨fun _ _ => ⟨((ext_row ((Ext.refl w174).trans hx646) hg658 hf662 (by omega)).trans hx712), b718⟩, ?_⟩
          have b719 : Blk w710 g273 26 (byteVals (((digsOf s).getD k []))) := ((b647.grown hg658 nb672).ext hx712)
          have r720 := (own_ext r657 hx712)
          exact st482 _ _ ⟨g709, A654, c655, g273, ((((((((((((((((((((hF716.nil.cons (hF716.get (t := 51) (v := (.slice A654 ((0 + n110) + 1) c655)) rfl)).cons (hF716.get (t := 45) (v := (.int .i64 ((digsOf s).length : Nat))) rfl)).cons (hF716.get (t := 43) (v := (.int .i64 (k : Nat))) rfl)).cons (hF716.get (t := 42) (v := (.agg (byteVals ((digsOf s).getD k [])).toArray)) rfl)).cons (hF716.get (t := 22) (v := (.bool (decide (((k : Nat) : Int) < (((digsOf s).length : Nat) : Int))))) rfl)).cons (hF716.get (t := 21) (v := (.int .i64 (k : Nat))) rfl)).cons (hF716.get (t := 20) (v := (.int .i64 ((digsOf s).length : Nat))) rfl)).cons (hF716.get (t := 19) (v := (.slice A17 ((digsOf s).length) c18)) rfl)).cons (hF716.get (t := 14) (v := (.bool false)) rfl)).cons (hF716.get (t := 11) (v := (.pointer (some ⟨g709, 0, none⟩))) rfl)).cons (hF716.get (t := 10) (v := (.int .i64 0)) rfl)).cons (hF716.get (t := 9) (v := (.pointer (some ⟨g158, 0, none⟩))) rfl)).cons (hF716.get (t := 8) (v := (.int .i64 0)) rfl)).cons (hF716.get (t := 7) (v := (.slice A109 n110 c111)) rfl)).cons (hF716.get (t := 6) (v := (.pointer (some ⟨g89, 0, none⟩))) rfl)).cons (hF716.get (t := 5) (v := (.int .i64 (k : Nat))) rfl)).cons (hF716.get (t := 4) (v := (.pointer (some ⟨g40, 0, none⟩))) rfl)).cons (hF716.get (t := 3) (v := (.slice A17 ((digsOf s).length) c18)) rfl)).cons (hF716.get (t := 2) (v := (.bool false)) rfl)).cons (hF716.get (t := 0) (v := (.slice A s.length c)) rfl)), ((ext_row ((Ext.refl w174).trans hx646) hg658 hf662 (by omega)).trans hx712), b719, (by omega), b711, (by omega), (by omega), (own_base r720 (by omega)), nb680, nb717⟩
      · skip
        have hf721 := r649
        refine o_new (fun g => (.pointer (some ⟨g, 0, none⟩))) (byteVals (List.replicate 32 0)) 26 hF645 rfl rfl rfl rfl (by kernel_rfl) ?_
        intro g722 w723 a728 hF729 z726 z727 b724 hx725; clear hF645
        have nb730 := own_new (g := g722) hf721 (by omega)
        have b731 : Blk w723 g89 26 (byteVals ((digsOf s).getD k [])) := ((((((b136.ext hx148).ext hx161).grownN hg168 (by omega)).ext hx175).ext hx646).ext hx725)
        refine ⟨fun _ _ => ⟨(((Ext.refl w174).trans hx646).trans hx725), b731⟩, ?_⟩
        have b732 : Blk w723 g273 26 (byteVals (((digsOf s).getD k []))) := (b647.ext hx725)
        have r733 := (own_ext r649 hx725)
        exact st514 _ _ ⟨g722, A248, c249, g273, (((((((((((((((((((((hF729.nil.cons (hF729.get (t := 50) (v := (.slice (some ⟨g273, 0, none⟩) 1 1)) rfl)).cons (hF729.get (t := 48) (v := (.slice A248 (0 + n110) c249)) rfl)).cons (hF729.get (t := 45) (v := (.int .i64 ((digsOf s).length : Nat))) rfl)).cons (hF729.get (t := 43) (v := (.int .i64 (k : Nat))) rfl)).cons (hF729.get (t := 42) (v := (.agg (byteVals ((digsOf s).getD k [])).toArray)) rfl)).cons (hF729.get (t := 22) (v := (.bool (decide (((k : Nat) : Int) < (((digsOf s).length : Nat) : Int))))) rfl)).cons (hF729.get (t := 21) (v := (.int .i64 (k : Nat))) rfl)).cons (hF729.get (t := 20) (v := (.int .i64 ((digsOf s).length : Nat))) rfl)).cons (hF729.get (t := 19) (v := (.slice A17 ((digsOf s).length) c18)) rfl)).cons (hF729.get (t := 14) (v := (.bool false)) rfl)).cons (hF729.get (t := 11) (v := (.pointer (some ⟨g722, 0, none⟩))) rfl)).cons (hF729.get (t := 10) (v := (.int .i64 0)) rfl)).cons (hF729.get (t := 9) (v := (.pointer (some ⟨g158, 0, none⟩))) rfl)).cons (hF729.get (t := 8) (v := (.int .i64 0)) rfl)).cons (hF729.get (t := 7) (v := (.slice A109 n110 c111)) rfl)).cons (hF729.get (t := 6) (v := (.pointer (some ⟨g89, 0, none⟩))) rfl)).cons (hF729.get (t := 5) (v := (.int .i64 (k : Nat))) rfl)).cons (hF729.get (t := 4) (v := (.pointer (some ⟨g40, 0, none⟩))) rfl)).cons (hF729.get (t := 3) (v := (.slice A17 ((digsOf s).length) c18)) rfl)).cons (hF729.get (t := 2) (v := (.bool false)) rfl)).cons (hF729.get (t := 0) (v := (.slice A s.length c)) rfl)), (((Ext.refl w174).trans hx646).trans hx725), b732, (by omega), b724, (by omega), (by omega), (own_base r733 (by omega)), nb650, nb730⟩
    refine any_have (n1 := 9) (L1 := #[true, true, true, true, false, true, false, true, true, false, false, false, false, false, true, false, false]) (fun a' W => ∃ (g210 : Nat) (g228 : Nat), Sl 76 [(0, (.slice A s.length c)), (2, (.bool false)), (3, (.slice A17 ((digsOf s).length) c18)), (4, (.pointer (some ⟨g40, 0, none⟩))), (5, (.int .i64 (k : Nat))), (6, (.pointer (some ⟨g89, 0, none⟩))), (7, (.slice A109 n110 c111)), (8, (.int .i64 0)), (9, (.pointer (some ⟨g158, 0, none⟩))), (10, (.int .i64 0)), (11, (.pointer (some ⟨g210, 0, none⟩))), (14, (.bool false)), (19, (.slice A17 ((digsOf s).length) c18)), (20, (.int .i64 ((digsOf s).length : Nat))), (21, (.int .i64 (k : Nat))), (22, (.bool (decide (((k : Nat) : Int) < (((digsOf s).length : Nat) : Int))))), (42, (.agg (byteVals ((digsOf s).getD k [])).toArray)), (43, (.int .i64 (k : Nat))), (45, (.int .i64 ((digsOf s).length : Nat))), (47, (.slice A109 n110 c111)), (50, (.slice (some ⟨g228, 0, none⟩) 1 1))] a' ∧ Ext w174 W ∧ Blk W g228 26 (byteVals (((digsOf s).getD k []))) ∧ w174.heap.size ≤ g228 ∧ Blk W g210 26 (byteVals (List.replicate 32 0)) ∧ w174.heap.size ≤ g210 ∧ g228 ≠ g210) ?_ (fun st734 => ?_)
    · skip
      rintro a735 w736 ⟨g210, g228, hF737, hx738, b739, z740, b741, z742, z743⟩
      clear hF172
      have z744 := hx738.size
      have z745 := b739.lt
      have z746 := b741.lt
      refine any_one (i := 4) (by decide +kernel) rfl ?_
      refine o_new (fun g => (.slice (some ⟨g, 0, none⟩) 0 0)) [] 26 hF737 rfl rfl rfl rfl (rn_buildSlice (parts0 ) (by kernel_rfl)) ?_
      intro g747 w748 a753 hF754 z751 z752 b749 hx750; clear hF737
      have b755 : Blk w748 g89 26 (byteVals ((digsOf s).getD k [])) := ((((((b136.ext hx148).ext hx161).grownN hg168 (by omega)).ext hx175).ext hx738).ext hx750)
      refine ⟨fun _ _ => ⟨(((Ext.refl w174).trans hx738).trans hx750), b755⟩, ?_⟩
      have b756 : Blk w748 g228 26 (byteVals (((digsOf s).getD k []))) := (b739.ext hx750)
      have b757 : Blk w748 g210 26 (byteVals (List.replicate 32 0)) := (b741.ext hx750)
      exact st564 _ _ ⟨g210, g747, g228, ((((((((((((((((((((((hF754.nil.cons (hF754.get (t := 50) (v := (.slice (some ⟨g228, 0, none⟩) 1 1)) rfl)).cons (hF754.get (t := 47) (v := (.slice A109 n110 c111)) rfl)).cons (hF754.get (t := 46) (v := (.slice (some ⟨g747, 0, none⟩) 0 0)) rfl)).cons (hF754.get (t := 45) (v := (.int .i64 ((digsOf s).length : Nat))) rfl)).cons (hF754.get (t := 43) (v := (.int .i64 (k : Nat))) rfl)).cons (hF754.get (t := 42) (v := (.agg (byteVals ((digsOf s).getD k [])).toArray)) rfl)).cons (hF754.get (t := 22) (v := (.bool (decide (((k : Nat) : Int) < (((digsOf s).length : Nat) : Int))))) rfl)).cons (hF754.get (t := 21) (v := (.int .i64 (k : Nat))) rfl)).cons (hF754.get (t := 20) (v := (.int .i64 ((digsOf s).length : Nat))) rfl)).cons (hF754.get (t := 19) (v := (.slice A17 ((digsOf s).length) c18)) rfl)).cons (hF754.get (t := 14) (v := (.bool false)) rfl)).cons (hF754.get (t := 11) (v := (.pointer (some ⟨g210, 0, none⟩))) rfl)).cons (hF754.get (t := 10) (v := (.int .i64 0)) rfl)).cons (hF754.get (t := 9) (v := (.pointer (some ⟨g158, 0, none⟩))) rfl)).cons (hF754.get (t := 8) (v := (.int .i64 0)) rfl)).cons (hF754.get (t := 7) (v := (.slice A109 n110 c111)) rfl)).cons (hF754.get (t := 6) (v := (.pointer (some ⟨g89, 0, none⟩))) rfl)).cons (hF754.get (t := 5) (v := (.int .i64 (k : Nat))) rfl)).cons (hF754.get (t := 4) (v := (.pointer (some ⟨g40, 0, none⟩))) rfl)).cons (hF754.get (t := 3) (v := (.slice A17 ((digsOf s).length) c18)) rfl)).cons (hF754.get (t := 2) (v := (.bool false)) rfl)).cons (hF754.get (t := 0) (v := (.slice A s.length c)) rfl)), (((Ext.refl w174).trans hx738).trans hx750), b749, (by omega), b756, (by omega), b757, (by omega), (by omega), (by omega), (by omega)⟩
    refine any_have (n1 := 9) (L1 := #[true, true, true, true, true, true, false, true, true, false, false, false, false, false, false, false, false]) (fun a' W => ∃ (g237 : Nat) (g201 : Nat), Sl 76 [(0, (.slice A s.length c)), (2, (.bool false)), (3, (.slice A17 ((digsOf s).length) c18)), (4, (.pointer (some ⟨g40, 0, none⟩))), (5, (.int .i64 (k : Nat))), (6, (.pointer (some ⟨g89, 0, none⟩))), (7, (.slice A109 n110 c111)), (8, (.int .i64 0)), (9, (.pointer (some ⟨g158, 0, none⟩))), (10, (.int .i64 0)), (14, (.bool false)), (19, (.slice A17 ((digsOf s).length) c18)), (20, (.int .i64 ((digsOf s).length : Nat))), (21, (.int .i64 (k : Nat))), (22, (.bool (decide (((k : Nat) : Int) < (((digsOf s).length : Nat) : Int))))), (42, (.agg (byteVals ((digsOf s).getD k [])).toArray)), (43, (.int .i64 (k : Nat))), (45, (.int .i64 ((digsOf s).length : Nat))), (46, (.slice (some ⟨g237, 0, none⟩) 0 0)), (47, (.slice A109 n110 c111)), (50, (.slice (some ⟨g201, 0, none⟩) 1 1))] a' ∧ Ext w174 W ∧ Blk W g237 26 [] ∧ w174.heap.size ≤ g237 ∧ Blk W g201 26 (byteVals (((digsOf s).getD k []))) ∧ w174.heap.size ≤ g201 ∧ g237 ≠ g201) ?_ (fun st758 => ?_)
    · skip
      rintro a759 w760 ⟨g237, g201, hF761, hx762, b763, z764, b765, z766, z767⟩
      clear hF172
      have z768 := hx762.size
      have z769 := b763.lt
      have z770 := b765.lt
      refine any_two (i := 6) (k := 14) (by decide +kernel) rfl rfl ?_ ?_
      · skip
        have d772 := (hf123.pres ((((((Pres.refl w116).ext hx148).ext hx161).grownN hg168 (fun h => by simp only [Clip] at h; omega)).ext hx175).ext hx762))
        have hf781 := (own_blk0 (k := 32) b763)
        have b782 : Blk w760 g40 26 (byteVals (treeD (digsOf s))) := ((((((((b67.ext hx92).grownN hg101 (by omega)).ext hx117).ext hx148).ext hx161).grownN hg168 (by omega)).ext hx175).ext hx762)
        have nb783 : some g40 ≠ (Value.slice (some ⟨g237, 0, none⟩) 0 0).ownBlock := (ne_slice (n := 0) (c := 0) (by omega : g40 ≠ g237))
        have z784 := b782.lt
        have b785 : Blk w760 g89 26 (byteVals ((digsOf s).getD k [])) := (((((b136.ext hx148).ext hx161).grownN hg168 (by omega)).ext hx175).ext hx762)
        have nb786 : some g89 ≠ (Value.slice (some ⟨g237, 0, none⟩) 0 0).ownBlock := (ne_slice (n := 0) (c := 0) (by omega : g89 ≠ g237))
        have z787 := b785.lt
        have b788 : Blk w760 g158 26 (byteVals (treeD (digsOf s))) := ((b167.ext hx175).ext hx762)
        have nb789 : some g158 ≠ (Value.slice (some ⟨g237, 0, none⟩) 0 0).ownBlock := (ne_slice (n := 0) (c := 0) (by omega : g158 ≠ g237))
        have z790 := b788.lt
        have nb791 : some g201 ≠ (Value.slice (some ⟨g237, 0, none⟩) 0 0).ownBlock := (ne_slice (n := 0) (c := 0) (by omega : g201 ≠ g237))
        have z792 := b765.lt
        refine o_appB (zs := digVals (pathD (digsOf s) k)) El30 hF761 rfl rfl rfl rfl rfl (hF761.get rfl) (hF761.get rfl) hf781 (Fl.cel d772).2.2 (by omega) (by omega) (by omega) (List.nil_append _) ?_
        intro A773 c774 w775 a793 hF794 r776 hg777 z778 z779 hnb780; clear hF761; have z795 := hg777.size
        have nb796 := hnb780 g40 (by omega) nb783
        have nb797 := hnb780 g89 (by omega) nb786
        have nb798 := hnb780 g158 (by omega) nb789
        have nb799 := hnb780 g201 (by omega) nb791
        have b800 : Blk w775 g89 26 (byteVals ((digsOf s).getD k [])) := (b785.grown hg777 nb786)
        refine ⟨fun _ _ => ⟨(ext_row ((Ext.refl w174).trans hx762) hg777 hf781 (by omega)), b800⟩, ?_⟩
        have b801 : Blk w775 g201 26 (byteVals (((digsOf s).getD k []))) := (b765.grown hg777 nb791)
        exact st642 _ _ ⟨A773, c774, g201, ((((((((((((((((((((hF794.nil.cons (hF794.get (t := 50) (v := (.slice (some ⟨g201, 0, none⟩) 1 1)) rfl)).cons (hF794.get (t := 48) (v := (.slice A773 (0 + n110) c774)) rfl)).cons (hF794.get (t := 45) (v := (.int .i64 ((digsOf s).length : Nat))) rfl)).cons (hF794.get (t := 43) (v := (.int .i64 (k : Nat))) rfl)).cons (hF794.get (t := 42) (v := (.agg (byteVals ((digsOf s).getD k [])).toArray)) rfl)).cons (hF794.get (t := 22) (v := (.bool (decide (((k : Nat) : Int) < (((digsOf s).length : Nat) : Int))))) rfl)).cons (hF794.get (t := 21) (v := (.int .i64 (k : Nat))) rfl)).cons (hF794.get (t := 20) (v := (.int .i64 ((digsOf s).length : Nat))) rfl)).cons (hF794.get (t := 19) (v := (.slice A17 ((digsOf s).length) c18)) rfl)).cons (hF794.get (t := 14) (v := (.bool false)) rfl)).cons (hF794.get (t := 10) (v := (.int .i64 0)) rfl)).cons (hF794.get (t := 9) (v := (.pointer (some ⟨g158, 0, none⟩))) rfl)).cons (hF794.get (t := 8) (v := (.int .i64 0)) rfl)).cons (hF794.get (t := 7) (v := (.slice A109 n110 c111)) rfl)).cons (hF794.get (t := 6) (v := (.pointer (some ⟨g89, 0, none⟩))) rfl)).cons (hF794.get (t := 5) (v := (.int .i64 (k : Nat))) rfl)).cons (hF794.get (t := 4) (v := (.pointer (some ⟨g40, 0, none⟩))) rfl)).cons (hF794.get (t := 3) (v := (.slice A17 ((digsOf s).length) c18)) rfl)).cons (hF794.get (t := 2) (v := (.bool false)) rfl)).cons (hF794.get (t := 0) (v := (.slice A s.length c)) rfl)), (ext_row ((Ext.refl w174).trans hx762) hg777 hf781 (by omega)), b801, (by omega), (own_base r776 (by omega)), nb799⟩
      · skip
        refine o_new (fun g => (.pointer (some ⟨g, 0, none⟩))) (byteVals (List.replicate 32 0)) 26 hF761 rfl rfl rfl rfl (by kernel_rfl) ?_
        intro g802 w803 a808 hF809 z806 z807 b804 hx805; clear hF761
        have b810 : Blk w803 g89 26 (byteVals ((digsOf s).getD k [])) := ((((((b136.ext hx148).ext hx161).grownN hg168 (by omega)).ext hx175).ext hx762).ext hx805)
        refine ⟨fun _ _ => ⟨(((Ext.refl w174).trans hx762).trans hx805), b810⟩, ?_⟩
        have b811 : Blk w803 g237 26 [] := (b763.ext hx805)
        have b812 : Blk w803 g201 26 (byteVals (((digsOf s).getD k []))) := (b765.ext hx805)
        exact st564 _ _ ⟨g802, g237, g201, ((((((((((((((((((((((hF809.nil.cons (hF809.get (t := 50) (v := (.slice (some ⟨g201, 0, none⟩) 1 1)) rfl)).cons (hF809.get (t := 47) (v := (.slice A109 n110 c111)) rfl)).cons (hF809.get (t := 46) (v := (.slice (some ⟨g237, 0, none⟩) 0 0)) rfl)).cons (hF809.get (t := 45) (v := (.int .i64 ((digsOf s).length : Nat))) rfl)).cons (hF809.get (t := 43) (v := (.int .i64 (k : Nat))) rfl)).cons (hF809.get (t := 42) (v := (.agg (byteVals ((digsOf s).getD k [])).toArray)) rfl)).cons (hF809.get (t := 22) (v := (.bool (decide (((k : Nat) : Int) < (((digsOf s).length : Nat) : Int))))) rfl)).cons (hF809.get (t := 21) (v := (.int .i64 (k : Nat))) rfl)).cons (hF809.get (t := 20) (v := (.int .i64 ((digsOf s).length : Nat))) rfl)).cons (hF809.get (t := 19) (v := (.slice A17 ((digsOf s).length) c18)) rfl)).cons (hF809.get (t := 14) (v := (.bool false)) rfl)).cons (hF809.get (t := 11) (v := (.pointer (some ⟨g802, 0, none⟩))) rfl)).cons (hF809.get (t := 10) (v := (.int .i64 0)) rfl)).cons (hF809.get (t := 9) (v := (.pointer (some ⟨g158, 0, none⟩))) rfl)).cons (hF809.get (t := 8) (v := (.int .i64 0)) rfl)).cons (hF809.get (t := 7) (v := (.slice A109 n110 c111)) rfl)).cons (hF809.get (t := 6) (v := (.pointer (some ⟨g89, 0, none⟩))) rfl)).cons (hF809.get (t := 5) (v := (.int .i64 (k : Nat))) rfl)).cons (hF809.get (t := 4) (v := (.pointer (some ⟨g40, 0, none⟩))) rfl)).cons (hF809.get (t := 3) (v := (.slice A17 ((digsOf s).length) c18)) rfl)).cons (hF809.get (t := 2) (v := (.bool false)) rfl)).cons (hF809.get (t := 0) (v := (.slice A s.length c)) rfl)), (((Ext.refl w174).trans hx762).trans hx805), b811, (by omega), b812, (by omega), b804, (by omega), (by omega), (by omega), (by omega)⟩
    refine any_have (n1 := 9) (L1 := #[true, true, true, true, true, true, false, true, false, false, false, false, false, false, true, false, false]) (fun a' W => ∃ (g210 : Nat) (g219 : Nat), Sl 76 [(0, (.slice A s.length c)), (2, (.bool false)), (3, (.slice A17 ((digsOf s).length) c18)), (4, (.pointer (some ⟨g40, 0, none⟩))), (5, (.int .i64 (k : Nat))), (6, (.pointer (some ⟨g89, 0, none⟩))), (7, (.slice A109 n110 c111)), (8, (.int .i64 0)), (9, (.pointer (some ⟨g158, 0, none⟩))), (10, (.int .i64 0)), (11, (.pointer (some ⟨g210, 0, none⟩))), (14, (.bool false)), (19, (.slice A17 ((digsOf s).length) c18)), (20, (.int .i64 ((digsOf s).length : Nat))), (21, (.int .i64 (k : Nat))), (22, (.bool (decide (((k : Nat) : Int) < (((digsOf s).length : Nat) : Int))))), (42, (.agg (byteVals ((digsOf s).getD k [])).toArray)), (43, (.int .i64 (k : Nat))), (45, (.int .i64 ((digsOf s).length : Nat))), (46, (.slice (some ⟨g219, 0, none⟩) 0 0)), (47, (.slice A109 n110 c111)), (49, (.agg (byteVals ((digsOf s).getD k [])).toArray))] a' ∧ Ext w174 W ∧ Blk W g219 26 [] ∧ w174.heap.size ≤ g219 ∧ Blk W g210 26 (byteVals (List.replicate 32 0)) ∧ w174.heap.size ≤ g210 ∧ g219 ≠ g210) ?_ (fun st813 => ?_)
    · skip
      rintro a814 w815 ⟨g210, g219, hF816, hx817, b818, z819, b820, z821, z822⟩
      clear hF172
      have z823 := hx817.size
      have z824 := b818.lt
      have z825 := b820.lt
      refine any_two (i := 6) (k := 8) (by decide +kernel) rfl rfl ?_ ?_
      · skip
        have d827 := (hf123.pres ((((((Pres.refl w116).ext hx148).ext hx161).grownN hg168 (fun h => by simp only [Clip] at h; omega)).ext hx175).ext hx817))
        have hf836 := (own_blk0 (k := 32) b818)
        have b837 : Blk w815 g40 26 (byteVals (treeD (digsOf s))) := ((((((((b67.ext hx92).grownN hg101 (by omega)).ext hx117).ext hx148).ext hx161).grownN hg168 (by omega)).ext hx175).ext hx817)
        have nb838 : some g40 ≠ (Value.slice (some ⟨g219, 0, none⟩) 0 0).ownBlock := (ne_slice (n := 0) (c := 0) (by omega : g40 ≠ g219))
        have z839 := b837.lt
        have b840 : Blk w815 g89 26 (byteVals ((digsOf s).getD k [])) := (((((b136.ext hx148).ext hx161).grownN hg168 (by omega)).ext hx175).ext hx817)
        have nb841 : some g89 ≠ (Value.slice (some ⟨g219, 0, none⟩) 0 0).ownBlock := (ne_slice (n := 0) (c := 0) (by omega : g89 ≠ g219))
        have z842 := b840.lt
        have b843 : Blk w815 g158 26 (byteVals (treeD (digsOf s))) := ((b167.ext hx175).ext hx817)
        have nb844 : some g158 ≠ (Value.slice (some ⟨g219, 0, none⟩) 0 0).ownBlock := (ne_slice (n := 0) (c := 0) (by omega : g158 ≠ g219))
        have z845 := b843.lt
        have nb846 : some g210 ≠ (Value.slice (some ⟨g219, 0, none⟩) 0 0).ownBlock := (ne_slice (n := 0) (c := 0) (by omega : g210 ≠ g219))
        have z847 := b820.lt
        refine o_appB (zs := digVals (pathD (digsOf s) k)) El30 hF816 rfl rfl rfl rfl rfl (hF816.get rfl) (hF816.get rfl) hf836 (Fl.cel d827).2.2 (by omega) (by omega) (by omega) (List.nil_append _) ?_
        intro A828 c829 w830 a848 hF849 r831 hg832 z833 z834 hnb835; clear hF816; have z850 := hg832.size
        have nb851 := hnb835 g40 (by omega) nb838
        have nb852 := hnb835 g89 (by omega) nb841
        have nb853 := hnb835 g158 (by omega) nb844
        have nb854 := hnb835 g210 (by omega) nb846
        have b855 : Blk w830 g89 26 (byteVals ((digsOf s).getD k [])) := (b840.grown hg832 nb841)
        refine ⟨fun _ _ => ⟨(ext_row ((Ext.refl w174).trans hx817) hg832 hf836 (by omega)), b855⟩, ?_⟩
        have b856 : Blk w830 g210 26 (byteVals (List.replicate 32 0)) := (b820.grown hg832 nb846)
        exact st617 _ _ ⟨g210, A828, c829, (((((((((((((((((((((hF849.nil.cons (hF849.get (t := 49) (v := (.agg (byteVals ((digsOf s).getD k [])).toArray)) rfl)).cons (hF849.get (t := 48) (v := (.slice A828 (0 + n110) c829)) rfl)).cons (hF849.get (t := 45) (v := (.int .i64 ((digsOf s).length : Nat))) rfl)).cons (hF849.get (t := 43) (v := (.int .i64 (k : Nat))) rfl)).cons (hF849.get (t := 42) (v := (.agg (byteVals ((digsOf s).getD k [])).toArray)) rfl)).cons (hF849.get (t := 22) (v := (.bool (decide (((k : Nat) : Int) < (((digsOf s).length : Nat) : Int))))) rfl)).cons (hF849.get (t := 21) (v := (.int .i64 (k : Nat))) rfl)).cons (hF849.get (t := 20) (v := (.int .i64 ((digsOf s).length : Nat))) rfl)).cons (hF849.get (t := 19) (v := (.slice A17 ((digsOf s).length) c18)) rfl)).cons (hF849.get (t := 14) (v := (.bool false)) rfl)).cons (hF849.get (t := 11) (v := (.pointer (some ⟨g210, 0, none⟩))) rfl)).cons (hF849.get (t := 10) (v := (.int .i64 0)) rfl)).cons (hF849.get (t := 9) (v := (.pointer (some ⟨g158, 0, none⟩))) rfl)).cons (hF849.get (t := 8) (v := (.int .i64 0)) rfl)).cons (hF849.get (t := 7) (v := (.slice A109 n110 c111)) rfl)).cons (hF849.get (t := 6) (v := (.pointer (some ⟨g89, 0, none⟩))) rfl)).cons (hF849.get (t := 5) (v := (.int .i64 (k : Nat))) rfl)).cons (hF849.get (t := 4) (v := (.pointer (some ⟨g40, 0, none⟩))) rfl)).cons (hF849.get (t := 3) (v := (.slice A17 ((digsOf s).length) c18)) rfl)).cons (hF849.get (t := 2) (v := (.bool false)) rfl)).cons (hF849.get (t := 0) (v := (.slice A s.length c)) rfl)), (ext_row ((Ext.refl w174).trans hx817) hg832 hf836 (by omega)), b856, (by omega), (own_base r831 (by omega)), nb854⟩
      · skip
        refine o_new (fun g => (.slice (some ⟨g, 0, none⟩) 1 1)) (byteVals (((digsOf s).getD k []))) 26 hF816 rfl rfl rfl rfl (rn_buildSlice (parts1 (hF816.get rfl)) (build_wholeE (vs := [(.agg (byteVals ((digsOf s).getD k [])).toArray)]) El30 rfl rfl (fun v hv => by rw [List.mem_singleton.1 hv]; exact (byteVals_len (dig_len (digsOf_32 _) k (by omega)))) (by decide) (by decide) (by simp [Value.cells, byteVals]))) ?_
        intro g857 w858 a863 hF864 z861 z862 b859 hx860; clear hF816
        have b865 : Blk w858 g89 26 (byteVals ((digsOf s).getD k [])) := ((((((b136.ext hx148).ext hx161).grownN hg168 (by omega)).ext hx175).ext hx817).ext hx860)
        refine ⟨fun _ _ => ⟨(((Ext.refl w174).trans hx817).trans hx860), b865⟩, ?_⟩
        have b866 : Blk w858 g219 26 [] := (b818.ext hx860)
        have b867 : Blk w858 g210 26 (byteVals (List.replicate 32 0)) := (b820.ext hx860)
        exact st564 _ _ ⟨g210, g219, g857, ((((((((((((((((((((((hF864.nil.cons (hF864.get (t := 50) (v := (.slice (some ⟨g857, 0, none⟩) 1 1)) rfl)).cons (hF864.get (t := 47) (v := (.slice A109 n110 c111)) rfl)).cons (hF864.get (t := 46) (v := (.slice (some ⟨g219, 0, none⟩) 0 0)) rfl)).cons (hF864.get (t := 45) (v := (.int .i64 ((digsOf s).length : Nat))) rfl)).cons (hF864.get (t := 43) (v := (.int .i64 (k : Nat))) rfl)).cons (hF864.get (t := 42) (v := (.agg (byteVals ((digsOf s).getD k [])).toArray)) rfl)).cons (hF864.get (t := 22) (v := (.bool (decide (((k : Nat) : Int) < (((digsOf s).length : Nat) : Int))))) rfl)).cons (hF864.get (t := 21) (v := (.int .i64 (k : Nat))) rfl)).cons (hF864.get (t := 20) (v := (.int .i64 ((digsOf s).length : Nat))) rfl)).cons (hF864.get (t := 19) (v := (.slice A17 ((digsOf s).length) c18)) rfl)).cons (hF864.get (t := 14) (v := (.bool false)) rfl)).cons (hF864.get (t := 11) (v := (.pointer (some ⟨g210, 0, none⟩))) rfl)).cons (hF864.get (t := 10) (v := (.int .i64 0)) rfl)).cons (hF864.get (t := 9) (v := (.pointer (some ⟨g158, 0, none⟩))) rfl)).cons (hF864.get (t := 8) (v := (.int .i64 0)) rfl)).cons (hF864.get (t := 7) (v := (.slice A109 n110 c111)) rfl)).cons (hF864.get (t := 6) (v := (.pointer (some ⟨g89, 0, none⟩))) rfl)).cons (hF864.get (t := 5) (v := (.int .i64 (k : Nat))) rfl)).cons (hF864.get (t := 4) (v := (.pointer (some ⟨g40, 0, none⟩))) rfl)).cons (hF864.get (t := 3) (v := (.slice A17 ((digsOf s).length) c18)) rfl)).cons (hF864.get (t := 2) (v := (.bool false)) rfl)).cons (hF864.get (t := 0) (v := (.slice A s.length c)) rfl)), (((Ext.refl w174).trans hx817).trans hx860), b866, (by omega), b859, (by omega), b867, (by omega), (by omega), (by omega), (by omega)⟩
    have b869 : Blk w174 g89 26 (byteVals ((digsOf s).getD k [])) := ((((b136.ext hx148).ext hx161).grownN hg168 (by omega)).ext hx175)
    have hS868 : Ext w174 w174 ∧ Blk w174 g89 26 (byteVals ((digsOf s).getD k [])) := ⟨(Ext.refl w174), b869⟩
    refine any_val (i := 0) (v := (.agg (byteVals ((digsOf s).getD k [])).toArray)) hF172 (by decide +kernel) (by decide +kernel) rfl rfl rfl rfl (fun _ _ _ _ h => h) rfl hS868 (fun W hW => (rn_loadBlk (hF172.get rfl) hW.2 Tryd.underlying26 rfl ((by kernel_rfl : (Tryd.prog.info? 26).map (·.size) = some 32).trans (congrArg some (byteVals_len (dig_len (digsOf_32 _) k (by omega))).symm)))) ?_
    intro a870 hF871; clear hF172
    refine any_pure (i := 1) (v := (.int .i64 (k : Nat))) hF871 (by decide +kernel) (by decide +kernel) rfl rfl rfl rfl (fun _ _ _ _ h => h) rfl (fun W => (rn_move (hF871.get rfl))) ?_
    intro a872 hF873; clear hF871
    refine any_pure (i := 2) (v := (.slice A17 ((digsOf s).length) c18)) hF873 (by decide +kernel) (by decide +kernel) rfl rfl rfl rfl (fun _ _ _ _ h => h) rfl (fun W => (rn_move (hF873.get rfl))) ?_
    intro a874 hF875; clear hF873
    refine any_pure (i := 3) (v := (.int .i64 ((digsOf s).length : Nat))) hF875 (by decide +kernel) (by decide +kernel) rfl rfl rfl rfl (fun _ _ _ _ h => h) rfl (fun W => (rn_len_slice Tryd.underlying30 (hF875.get rfl))) ?_
    intro a876 hF877; clear hF875
    refine any_pure (i := 5) (v := (.slice A109 n110 c111)) hF877 (by decide +kernel) (by decide +kernel) rfl rfl rfl rfl (fun _ _ _ _ h => h) rfl (fun W => (rn_move (hF877.get rfl))) ?_
    intro a878 hF879; clear hF877
    refine any_val (i := 7) (v := (.agg (byteVals ((digsOf s).getD k [])).toArray)) hF879 (by decide +kernel) (by decide +kernel) rfl rfl rfl rfl (fun _ _ _ _ h => h) rfl hS868 (fun W hW => (rn_loadBlk (hF879.get rfl) hW.2 Tryd.underlying26 rfl ((by kernel_rfl : (Tryd.prog.info? 26).map (·.size) = some 32).trans (congrArg some (byteVals_len (dig_len (digsOf_32 _) k (by omega))).symm)))) ?_
    intro a880 hF881; clear hF879
    refine any_three (i := 4) (k := 8) (l := 14) (by decide +kernel) rfl rfl rfl ?_ ?_ ?_
    · skip
      refine o_new (fun g => (.slice (some ⟨g, 0, none⟩) 0 0)) [] 26 hF881 rfl rfl rfl rfl (rn_buildSlice (parts0 ) (by kernel_rfl)) ?_
      intro g882 w883 a888 hF889 z886 z887 b884 hx885; clear hF881
      have b890 : Blk w883 g89 26 (byteVals ((digsOf s).getD k [])) := (b869.ext hx885)
      refine ⟨fun _ _ => ⟨((Ext.refl w174).trans hx885), b890⟩, ?_⟩
      refine any_three (i := 6) (k := 8) (l := 14) (by decide +kernel) rfl rfl rfl ?_ ?_ ?_
      · skip
        have d892 := (hf123.pres ((((((Pres.refl w116).ext hx148).ext hx161).grownN hg168 (fun h => by simp only [Clip] at h; omega)).ext hx175).ext hx885))
        have hf901 := (own_blk0 (k := 32) b884)
        have b902 : Blk w883 g40 26 (byteVals (treeD (digsOf s))) := ((((((((b67.ext hx92).grownN hg101 (by omega)).ext hx117).ext hx148).ext hx161).grownN hg168 (by omega)).ext hx175).ext hx885)
        have nb903 : some g40 ≠ (Value.slice (some ⟨g882, 0, none⟩) 0 0).ownBlock := (ne_slice (n := 0) (c := 0) (by omega : g40 ≠ g882))
        have z904 := b902.lt
        have nb905 : some g89 ≠ (Value.slice (some ⟨g882, 0, none⟩) 0 0).ownBlock := (ne_slice (n := 0) (c := 0) (by omega : g89 ≠ g882))
        have z906 := b890.lt
        have b907 : Blk w883 g158 26 (byteVals (treeD (digsOf s))) := ((b167.ext hx175).ext hx885)
        have nb908 : some g158 ≠ (Value.slice (some ⟨g882, 0, none⟩) 0 0).ownBlock := (ne_slice (n := 0) (c := 0) (by omega : g158 ≠ g882))
        have z909 := b907.lt
        refine o_appB (zs := digVals (pathD (digsOf s) k)) El30 hF889 rfl rfl rfl rfl rfl (hF889.get rfl) (hF889.get rfl) hf901 (Fl.cel d892).2.2 (by omega) (by omega) (by omega) (List.nil_append _) ?_
        intro A893 c894 w895 a910 hF911 r896 hg897 z898 z899 hnb900; clear hF889; have z912 := hg897.size
        have nb913 := hnb900 g40 (by omega) nb903
        have nb914 := hnb900 g89 (by omega) nb905
        have nb915 := hnb900 g158 (by omega) nb908
        have b916 : Blk w895 g89 26 (byteVals ((digsOf s).getD k [])) := (b890.grown hg897 nb905)
        refine ⟨fun _ _ => ⟨(ext_row ((Ext.refl w174).trans hx885) hg897 hf901 (by omega)), b916⟩, ?_⟩
        refine any_two (i := 8) (k := 14) (by decide +kernel) rfl rfl ?_ ?_
        · skip
          have hf917 := r896
          refine o_new (fun g => (.slice (some ⟨g, 0, none⟩) 1 1)) (byteVals (((digsOf s).getD k []))) 26 hF911 rfl rfl rfl rfl (rn_buildSlice (parts1 (hF911.get rfl)) (build_wholeE (vs := [(.agg (byteVals ((digsOf s).getD k [])).toArray)]) El30 rfl rfl (fun v hv => by rw [List.mem_singleton.1 hv]; exact (byteVals_len (dig_len (digsOf_32 _) k (by omega)))) (by decide) (by decide) (by simp [Value.cells, byteVals]))) ?_
          intro g918 w919 a924 hF925 z922 z923 b920 hx921; clear hF911
          have nb926 := own_new (g := g918) hf917 (by omega)
          have b927 : Blk w919 g89 26 (byteVals ((digsOf s).getD k [])) := (b916.ext hx921)
          refine ⟨fun _ _ => ⟨((ext_row ((Ext.refl w174).trans hx885) hg897 hf901 (by omega)).trans hx921), b927⟩, ?_⟩
          have r928 := (own_ext r896 hx921)
          exact st642 _ _ ⟨A893, c894, g918, ((((((((((((((((((((hF925.nil.cons (hF925.get (t := 50) (v := (.slice (some ⟨g918, 0, none⟩) 1 1)) rfl)).cons (hF925.get (t := 48) (v := (.slice A893 (0 + n110) c894)) rfl)).cons (hF925.get (t := 45) (v := (.int .i64 ((digsOf s).length : Nat))) rfl)).cons (hF925.get (t := 43) (v := (.int .i64 (k : Nat))) rfl)).cons (hF925.get (t := 42) (v := (.agg (byteVals ((digsOf s).getD k [])).toArray)) rfl)).cons (hF925.get (t := 22) (v := (.bool (decide (((k : Nat) : Int) < (((digsOf s).length : Nat) : Int))))) rfl)).cons (hF925.get (t := 21) (v := (.int .i64 (k : Nat))) rfl)).cons (hF925.get (t := 20) (v := (.int .i64 ((digsOf s).length : Nat))) rfl)).cons (hF925.get (t := 19) (v := (.slice A17 ((digsOf s).length) c18)) rfl)).cons (hF925.get (t := 14) (v := (.bool false)) rfl)).cons (hF925.get (t := 10) (v := (.int .i64 0)) rfl)).cons (hF925.get (t := 9) (v := (.pointer (some ⟨g158, 0, none⟩))) rfl)).cons (hF925.get (t := 8) (v := (.int .i64 0)) rfl)).cons (hF925.get (t := 7) (v := (.slice A109 n110 c111)) rfl)).cons (hF925.get (t := 6) (v := (.pointer (some ⟨g89, 0, none⟩))) rfl)).cons (hF925.get (t := 5) (v := (.int .i64 (k : Nat))) rfl)).cons (hF925.get (t := 4) (v := (.pointer (some ⟨g40, 0, none⟩))) rfl)).cons (hF925.get (t := 3) (v := (.slice A17 ((digsOf s).length) c18)) rfl)).cons (hF925.get (t := 2) (v := (.bool false)) rfl)).cons (hF925.get (t := 0) (v := (.slice A s.length c)) rfl)), ((ext_row ((Ext.refl w174).trans hx885) hg897 hf901 (by omega)).trans hx921), b920, (by omega), (own_base r928 (by omega)), nb926⟩
        · skip
          have hf929 := r896
          refine o_new (fun g => (.pointer (some ⟨g, 0, none⟩))) (byteVals (List.replicate 32 0)) 26 hF911 rfl rfl rfl rfl (by kernel_rfl) ?_
          intro g930 w931 a936 hF937 z934 z935 b932 hx933; clear hF911
          have nb938 := own_new (g := g930) hf929 (by omega)
          have b939 : Blk w931 g89 26 (byteVals ((digsOf s).getD k [])) := (b916.ext hx933)
          refine ⟨fun _ _ => ⟨((ext_row ((Ext.refl w174).trans hx885) hg897 hf901 (by omega)).trans hx933), b939⟩, ?_⟩
          have r940 := (own_ext r896 hx933)
          exact st617 _ _ ⟨g930, A893, c894, (((((((((((((((((((((hF937.nil.cons (hF937.get (t := 49) (v := (.agg (byteVals ((digsOf s).getD k [])).toArray)) rfl)).cons (hF937.get (t := 48) (v := (.slice A893 (0 + n110) c894)) rfl)).cons (hF937.get (t := 45) (v := (.int .i64 ((digsOf s).length : Nat))) rfl)).cons (hF937.get (t := 43) (v := (.int .i64 (k : Nat))) rfl)).cons (hF937.get (t := 42) (v := (.agg (byteVals ((digsOf s).getD k [])).toArray)) rfl)).cons (hF937.get (t := 22) (v := (.bool (decide (((k : Nat) : Int) < (((digsOf s).length : Nat) : Int))))) rfl)).cons (hF937.get (t := 21) (v := (.int .i64 (k : Nat))) rfl)).cons (hF937.get (t := 20) (v := (.int .i64 ((digsOf s).length : Nat))) rfl)).cons (hF937.get (t := 19) (v := (.slice A17 ((digsOf s).length) c18)) rfl)).cons (hF937.get (t := 14) (v := (.bool false)) rfl)).cons (hF937.get (t := 11) (v := (.pointer (some ⟨g930, 0, none⟩))) rfl)).cons (hF937.get (t := 10) (v := (.int .i64 0)) rfl)).cons (hF937.get (t := 9) (v := (.pointer (some ⟨g158, 0, none⟩))) rfl)).cons (hF937.get (t := 8) (v := (.int .i64 0)) rfl)).cons (hF937.get (t := 7) (v := (.slice A109 n110 c111)) rfl)).cons (hF937.get (t := 6) (v := (.pointer (some ⟨g89, 0, none⟩))) rfl)).cons (hF937.get (t := 5) (v := (.int .i64 (k : Nat))) rfl)).cons (hF937.get (t := 4) (v := (.pointer (some ⟨g40, 0, none⟩))) rfl)).cons (hF937.get (t := 3) (v := (.slice A17 ((digsOf s).length) c18)) rfl)).cons (hF937.get (t := 2) (v := (.bool false)) rfl)).cons (hF937.get (t := 0) (v := (.slice A s.length c)) rfl)), ((ext_row ((Ext.refl w174).trans hx885) hg897 hf901 (by omega)).trans hx933), b932, (by omega), (own_base r940 (by omega)), nb938⟩
      · skip
        refine o_new (fun g => (.slice (some ⟨g, 0, none⟩) 1 1)) (byteVals (((digsOf s).getD k []))) 26 hF889 rfl rfl rfl rfl (rn_buildSlice (parts1 (hF889.get rfl)) (build_wholeE (vs := [(.agg (byteVals ((digsOf s).getD k [])).toArray)]) El30 rfl rfl (fun v hv => by rw [List.mem_singleton.1 hv]; exact (byteVals_len (dig_len (digsOf_32 _) k (by omega)))) (by decide) (by decide) (by simp [Value.cells, byteVals]))) ?_
        intro g941 w942 a947 hF948 z945 z946 b943 hx944; clear hF889
        have b949 : Blk w942 g89 26 (byteVals ((digsOf s).getD k [])) := (b890.ext hx944)
        refine ⟨fun _ _ => ⟨(((Ext.refl w174).trans hx885).trans hx944), b949⟩, ?_⟩
        have b950 : Blk w942 g882 26 [] := (b884.ext hx944)
        exact st758 _ _ ⟨g882, g941, (((((((((((((((((((((hF948.nil.cons (hF948.get (t := 50) (v := (.slice (some ⟨g941, 0, none⟩) 1 1)) rfl)).cons (hF948.get (t := 47) (v := (.slice A109 n110 c111)) rfl)).cons (hF948.get (t := 46) (v := (.slice (some ⟨g882, 0, none⟩) 0 0)) rfl)).cons (hF948.get (t := 45) (v := (.int .i64 ((digsOf s).length : Nat))) rfl)).cons (hF948.get (t := 43) (v := (.int .i64 (k : Nat))) rfl)).cons (hF948.get (t := 42) (v := (.agg (byteVals ((digsOf s).getD k [])).toArray)) rfl)).cons (hF948.get (t := 22) (v := (.bool (decide (((k : Nat) : Int) < (((digsOf s).length : Nat) : Int))))) rfl)).cons (hF948.get (t := 21) (v := (.int .i64 (k : Nat))) rfl)).cons (hF948.get (t := 20) (v := (.int .i64 ((digsOf s).length : Nat))) rfl)).cons (hF948.get (t := 19) (v := (.slice A17 ((digsOf s).length) c18)) rfl)).cons (hF948.get (t := 14) (v := (.bool false)) rfl)).cons (hF948.get (t := 10) (v := (.int .i64 0)) rfl)).cons (hF948.get (t := 9) (v := (.pointer (some ⟨g158, 0, none⟩))) rfl)).cons (hF948.get (t := 8) (v := (.int .i64 0)) rfl)).cons (hF948.get (t := 7) (v := (.slice A109 n110 c111)) rfl)).cons (hF948.get (t := 6) (v := (.pointer (some ⟨g89, 0, none⟩))) rfl)).cons (hF948.get (t := 5) (v := (.int .i64 (k : Nat))) rfl)).cons (hF948.get (t := 4) (v := (.pointer (some ⟨g40, 0, none⟩))) rfl)).cons (hF948.get (t := 3) (v := (.slice A17 ((digsOf s).length) c18)) rfl)).cons (hF948.get (t := 2) (v := (.bool false)) rfl)).cons (hF948.get (t := 0) (v := (.slice A s.length c)) rfl)), (((Ext.refl w174).trans hx885).trans hx944), b950, (by omega), b943, (by omega), (by omega)⟩
      · skip
        refine o_new (fun g => (.pointer (some ⟨g, 0, none⟩))) (byteVals (List.replicate 32 0)) 26 hF889 rfl rfl rfl rfl (by kernel_rfl) ?_
        intro g951 w952 a957 hF958 z955 z956 b953 hx954; clear hF889
        have b959 : Blk w952 g89 26 (byteVals ((digsOf s).getD k [])) := (b890.ext hx954)
        refine ⟨fun _ _ => ⟨(((Ext.refl w174).trans hx885).trans hx954), b959⟩, ?_⟩
        have b960 : Blk w952 g882 26 [] := (b884.ext hx954)
        exact st813 _ _ ⟨g951, g882, ((((((((((((((((((((((hF958.nil.cons (hF958.get (t := 49) (v := (.agg (byteVals ((digsOf s).getD k [])).toArray)) rfl)).cons (hF958.get (t := 47) (v := (.slice A109 n110 c111)) rfl)).cons (hF958.get (t := 46) (v := (.slice (some ⟨g882, 0, none⟩) 0 0)) rfl)).cons (hF958.get (t := 45) (v := (.int .i64 ((digsOf s).length : Nat))) rfl)).cons (hF958.get (t := 43) (v := (.int .i64 (k : Nat))) rfl)).cons (hF958.get (t := 42) (v := (.agg (byteVals ((digsOf s).getD k [])).toArray)) rfl)).cons (hF958.get (t := 22) (v := (.bool (decide (((k : Nat) : Int) < (((digsOf s).length : Nat) : Int))))) rfl)).cons (hF958.get (t := 21) (v := (.int .i64 (k : Nat))) rfl)).cons (hF958.get (t := 20) (v := (.int .i64 ((digsOf s).length : Nat))) rfl)).cons (hF958.get (t := 19) (v := (.slice A17 ((digsOf s).length) c18)) rfl)).cons (hF958.get (t := 14) (v := (.bool false)) rfl)).cons (hF958.get (t := 11) (v := (.pointer (some ⟨g951, 0, none⟩))) rfl)).cons (hF958.get (t := 10) (v := (.int .i64 0)) rfl)).cons (hF958.get (t := 9) (v := (.pointer (some ⟨g158, 0, none⟩))) rfl)).cons (hF958.get (t := 8) (v := (.int .i64 0)) rfl)).cons (hF958.get (t := 7) (v := (.slice A109 n110 c111)) rfl)).cons (hF958.get (t := 6) (v := (.pointer (some ⟨g89, 0, none⟩))) rfl)).cons (hF958.get (t := 5) (v := (.int .i64 (k : Nat))) rfl)).cons (hF958.get (t := 4) (v := (.pointer (some ⟨g40, 0, none⟩))) rfl)).cons (hF958.get (t := 3) (v := (.slice A17 ((digsOf s).length) c18)) rfl)).cons (hF958.get (t := 2) (v := (.bool false)) rfl)).cons (hF958.get (t := 0) (v := (.slice A s.length c)) rfl)), (((Ext.refl w174).trans hx885).trans hx954), b960, (by omega), b953, (by omega), (by omega)⟩
    · skip
      refine o_new (fun g => (.slice (some ⟨g, 0, none⟩) 1 1)) (byteVals (((digsOf s).getD k []))) 26 hF881 rfl rfl rfl rfl (rn_buildSlice (parts1 (hF881.get rfl)) (build_wholeE (vs := [(.agg (byteVals ((digsOf s).getD k [])).toArray)]) El30 rfl rfl (fun v hv => by rw [List.mem_singleton.1 hv]; exact (byteVals_len (dig_len (digsOf_32 _) k (by omega)))) (by decide) (by decide) (by simp [Value.cells, byteVals]))) ?_
      intro g961 w962 a967 hF968 z965 z966 b963 hx964; clear hF881
      have b969 : Blk w962 g89 26 (byteVals ((digsOf s).getD k [])) := (b869.ext hx964)
      refine ⟨fun _ _ => ⟨((Ext.refl w174).trans hx964), b969⟩, ?_⟩
      refine any_two (i := 4) (k := 14) (by decide +kernel) rfl rfl ?_ ?_
      · skip
        refine o_new (fun g => (.slice (some ⟨g, 0, none⟩) 0 0)) [] 26 hF968 rfl rfl rfl rfl (rn_buildSlice (parts0 ) (by kernel_rfl)) ?_
        intro g970 w971 a976 hF977 z974 z975 b972 hx973; clear hF968
        have b978 : Blk w971 g89 26 (byteVals ((digsOf s).getD k [])) := (b969.ext hx973)
        refine ⟨fun _ _ => ⟨(((Ext.refl w174).trans hx964).trans hx973), b978⟩, ?_⟩
        have b979 : Blk w971 g961 26 (byteVals (((digsOf s).getD k []))) := (b963.ext hx973)
        exact st758 _ _ ⟨g970, g961, (((((((((((((((((((((hF977.nil.cons (hF977.get (t := 50) (v := (.slice (some ⟨g961, 0, none⟩) 1 1)) rfl)).cons (hF977.get (t := 47) (v := (.slice A109 n110 c111)) rfl)).cons (hF977.get (t := 46) (v := (.slice (some ⟨g970, 0, none⟩) 0 0)) rfl)).cons (hF977.get (t := 45) (v := (.int .i64 ((digsOf s).length : Nat))) rfl)).cons (hF977.get (t := 43) (v := (.int .i64 (k : Nat))) rfl)).cons (hF977.get (t := 42) (v := (.agg (byteVals ((digsOf s).getD k [])).toArray)) rfl)).cons (hF977.get (t := 22) (v := (.bool (decide (((k : Nat) : Int) < (((digsOf s).length : Nat) : Int))))) rfl)).cons (hF977.get (t := 21) (v := (.int .i64 (k : Nat))) rfl)).cons (hF977.get (t := 20) (v := (.int .i64 ((digsOf s).length : Nat))) rfl)).cons (hF977.get (t := 19) (v := (.slice A17 ((digsOf s).length) c18)) rfl)).cons (hF977.get (t := 14) (v := (.bool false)) rfl)).cons (hF977.get (t := 10) (v := (.int .i64 0)) rfl)).cons (hF977.get (t := 9) (v := (.pointer (some ⟨g158, 0, none⟩))) rfl)).cons (hF977.get (t := 8) (v := (.int .i64 0)) rfl)).cons (hF977.get (t := 7) (v := (.slice A109 n110 c111)) rfl)).cons (hF977.get (t := 6) (v := (.pointer (some ⟨g89, 0, none⟩))) rfl)).cons (hF977.get (t := 5) (v := (.int .i64 (k : Nat))) rfl)).cons (hF977.get (t := 4) (v := (.pointer (some ⟨g40, 0, none⟩))) rfl)).cons (hF977.get (t := 3) (v := (.slice A17 ((digsOf s).length) c18)) rfl)).cons (hF977.get (t := 2) (v := (.bool false)) rfl)).cons (hF977.get (t := 0) (v := (.slice A s.length c)) rfl)), (((Ext.refl w174).trans hx964).trans hx973), b972, (by omega), b979, (by omega), (by omega)⟩
      · skip
        refine o_new (fun g => (.pointer (some ⟨g, 0, none⟩))) (byteVals (List.replicate 32 0)) 26 hF968 rfl rfl rfl rfl (by kernel_rfl) ?_
        intro g980 w981 a986 hF987 z984 z985 b982 hx983; clear hF968
        have b988 : Blk w981 g89 26 (byteVals ((digsOf s).getD k [])) := (b969.ext hx983)
        refine ⟨fun _ _ => ⟨(((Ext.refl w174).trans hx964).trans hx983), b988⟩, ?_⟩
        have b989 : Blk w981 g961 26 (byteVals (((digsOf s).getD k []))) := (b963.ext hx983)
        exact st734 _ _ ⟨g980, g961, (((((((((((((((((((((hF987.nil.cons (hF987.get (t := 50) (v := (.slice (some ⟨g961, 0, none⟩) 1 1)) rfl)).cons (hF987.get (t := 47) (v := (.slice A109 n110 c111)) rfl)).cons (hF987.get (t := 45) (v := (.int .i64 ((digsOf s).length : Nat))) rfl)).cons (hF987.get (t := 43) (v := (.int .i64 (k : Nat))) rfl)).cons (hF987.get (t := 42) (v := (.agg (byteVals ((digsOf s).getD k [])).toArray)) rfl)).cons (hF987.get (t := 22) (v := (.bool (decide (((k : Nat) : Int) < (((digsOf s).length : Nat) : Int))))) rfl)).cons (hF987.get (t := 21) (v := (.int .i64 (k : Nat))) rfl)).cons (hF987.get (t := 20) (v := (.int .i64 ((digsOf s).length : Nat))) rfl)).cons (hF987.get (t := 19) (v := (.slice A17 ((digsOf s).length) c18)) rfl)).cons (hF987.get (t := 14) (v := (.bool false)) rfl)).cons (hF987.get (t := 11) (v := (.pointer (some ⟨g980, 0, none⟩))) rfl)).cons (hF987.get (t := 10) (v := (.int .i64 0)) rfl)).cons (hF987.get (t := 9) (v := (.pointer (some ⟨g158, 0, none⟩))) rfl)).cons (hF987.get (t := 8) (v := (.int .i64 0)) rfl)).cons (hF987.get (t := 7) (v := (.slice A109 n110 c111)) rfl)).cons (hF987.get (t := 6) (v := (.pointer (some ⟨g89, 0, none⟩))) rfl)).cons (hF987.get (t := 5) (v := (.int .i64 (k : Nat))) rfl)).cons (hF987.get (t := 4) (v := (.pointer (some ⟨g40, 0, none⟩))) rfl)).cons (hF987.get (t := 3) (v := (.slice A17 ((digsOf s).length) c18)) rfl)).cons (hF987.get (t := 2) (v := (.bool false)) rfl)).cons (hF987.get (t := 0) (v := (.slice A s.length c)) rfl)), (((Ext.refl w174).trans hx964).trans hx983), b989, (by omega), b982, (by omega), (by omega)⟩
    · skip
      refine o_new (fun g => (.pointer (some ⟨g, 0, none⟩))) (byteVals (List.replicate 32 0)) 26 hF881 rfl rfl rfl rfl (by kernel_rfl) ?_
      intro g990 w991 a996 hF997 z994 z995 b992 hx993; clear hF881
      have b998 : Blk w991 g89 26 (byteVals ((digsOf s).getD k [])) := (b869.ext hx993)
      refine ⟨fun _ _ => ⟨((Ext.refl w174).trans hx993), b998⟩, ?_⟩
      refine any_two (i := 4) (k := 8) (by decide +kernel) rfl rfl ?_ ?_
      · skip
        refine o_new (fun g => (.slice (some ⟨g, 0, none⟩) 0 0)) [] 26 hF997 rfl rfl rfl rfl (rn_buildSlice (parts0 ) (by kernel_rfl)) ?_
        intro g999 w1000 a1005 hF1006 z1003 z1004 b1001 hx1002; clear hF997
        have b1007 : Blk w1000 g89 26 (byteVals ((digsOf s).getD k [])) := (b998.ext hx1002)
        refine ⟨fun _ _ => ⟨(((Ext.refl w174).trans hx993).trans hx1002), b1007⟩, ?_⟩
        have b1008 : Blk w1000 g990 26 (byteVals (List.replicate 32 0)) := (b992.ext hx1002)
        exact st813 _ _ ⟨g990, g999, ((((((((((((((((((((((hF1006.nil.cons (hF1006.get (t := 49) (v := (.agg (byteVals ((digsOf s).getD k [])).toArray)) rfl)).cons (hF1006.get (t := 47) (v := (.slice A109 n110 c111)) rfl)).cons (hF1006.get (t := 46) (v := (.slice (some ⟨g999, 0, none⟩) 0 0)) rfl)).cons (hF1006.get (t := 45) (v := (.int .i64 ((digsOf s).length : Nat))) rfl)).cons (hF1006.get (t := 43) (v := (.int .i64 (k : Nat))) rfl)).cons (hF1006.get (t := 42) (v := (.agg (byteVals ((digsOf s).getD k [])).toArray)) rfl)).cons (hF1006.get (t := 22) (v := (.bool (decide (((k : Nat) : Int) < (((digsOf s).length : Nat) : Int))))) rfl)).cons (hF1006.get (t := 21) (v := (.int .i64 (k : Nat))) rfl)).cons (hF1006.get (t := 20) (v := (.int .i64 ((digsOf s).length : Nat))) rfl)).cons (hF1006.get (t := 19) (v := (.slice A17 ((digsOf s).length) c18)) rfl)).cons (hF1006.get (t := 14) (v := (.bool false)) rfl)).cons (hF1006.get (t := 11) (v := (.pointer (some ⟨g990, 0, none⟩))) rfl)).cons (hF1006.get (t := 10) (v := (.int .i64 0)) rfl)).cons (hF1006.get (t := 9) (v := (.pointer (some ⟨g158, 0, none⟩))) rfl)).cons (hF1006.get (t := 8) (v := (.int .i64 0)) rfl)).cons (hF1006.get (t := 7) (v := (.slice A109 n110 c111)) rfl)).cons (hF1006.get (t := 6) (v := (.pointer (some ⟨g89, 0, none⟩))) rfl)).cons (hF1006.get (t := 5) (v := (.int .i64 (k : Nat))) rfl)).cons (hF1006.get (t := 4) (v := (.pointer (some ⟨g40, 0, none⟩))) rfl)).cons (hF1006.get (t := 3) (v := (.slice A17 ((digsOf s).length) c18)) rfl)).cons (hF1006.get (t := 2) (v := (.bool false)) rfl)).cons (hF1006.get (t := 0) (v := (.slice A s.length c)) rfl)), (((Ext.refl w174).trans hx993).trans hx1002), b1001, (by omega), b1008, (by omega), (by omega)⟩
      · skip
        refine o_new (fun g => (.slice (some ⟨g, 0, none⟩) 1 1)) (byteVals (((digsOf s).getD k []))) 26 hF997 rfl rfl rfl rfl (rn_buildSlice (parts1 (hF997.get rfl)) (build_wholeE (vs := [(.agg (byteVals ((digsOf s).getD k [])).toArray)]) El30 rfl rfl (fun v hv => by rw [List.mem_singleton.1 hv]; exact (byteVals_len (dig_len (digsOf_32 _) k (by omega)))) (by decide) (by decide) (by simp [Value.cells, byteVals]))) ?_
        intro g1009 w1010 a1015 hF1016 z1013 z1014 b1011 hx1012; clear hF997
        have b1017 : Blk w1010 g89 26 (byteVals ((digsOf s).getD k [])) := (b998.ext hx1012)
        refine ⟨fun _ _ => ⟨(((Ext.refl w174).trans hx993).trans hx1012), b1017⟩, ?_⟩
        have b1018 : Blk w1010 g990 26 (byteVals (List.replicate 32 0)) := (b992.ext hx1012)
        exact st734 _ _ ⟨g990, g1009, (((((((((((((((((((((hF1016.nil.cons (hF1016.get (t := 50) (v := (.slice (some ⟨g1009, 0, none⟩) 1 1)) rfl)).cons (hF1016.get (t := 47) (v := (.slice A109 n110 c111)) rfl)).cons (hF1016.get (t := 45) (v := (.int .i64 ((digsOf s).length : Nat))) rfl)).cons (hF1016.get (t := 43) (v := (.int .i64 (k : Nat))) rfl)).cons (hF1016.get (t := 42) (v := (.agg (byteVals ((digsOf s).getD k [])).toArray)) rfl)).cons (hF1016.get (t := 22) (v := (.bool (decide (((k : Nat) : Int) < (((digsOf s).length : Nat) : Int))))) rfl)).cons (hF1016.get (t := 21) (v := (.int .i64 (k : Nat))) rfl)).cons (hF1016.get (t := 20) (v := (.int .i64 ((digsOf s).length : Nat))) rfl)).cons (hF1016.get (t := 19) (v := (.slice A17 ((digsOf s).length) c18)) rfl)).cons (hF1016.get (t := 14) (v := (.bool false)) rfl)).cons (hF1016.get (t := 11) (v := (.pointer (some ⟨g990, 0, none⟩))) rfl)).cons (hF1016.get (t := 10) (v := (.int .i64 0)) rfl)).cons (hF1016.get (t := 9) (v := (.pointer (some ⟨g158, 0, none⟩))) rfl)).cons (hF1016.get (t := 8) (v := (.int .i64 0)) rfl)).cons (hF1016.get (t := 7) (v := (.slice A109 n110 c111)) rfl)).cons (hF1016.get (t := 6) (v := (.pointer (some ⟨g89, 0, none⟩))) rfl)).cons (hF1016.get (t := 5) (v := (.int .i64 (k : Nat))) rfl)).cons (hF1016.get (t := 4) (v := (.pointer (some ⟨g40, 0, none⟩))) rfl)).cons (hF1016.get (t := 3) (v := (.slice A17 ((digsOf s).length) c18)) rfl)).cons (hF1016.get (t := 2) (v := (.bool false)) rfl)).cons (hF1016.get (t := 0) (v := (.slice A s.length c)) rfl)), (((Ext.refl w174).trans hx993).trans hx1012), b1011, (by omega), b1018, (by omega), (by omega)⟩
  · skip
    refine wp_cond_false (c_false hF75 rfl (decide_eq_false hc77)) ?_
    refine wp_exit ?_
    refine exit_then ?_
    refine exit_then ?_
    refine exit_here ?_
    refine hK53 _ _ ?_
    clear hK53
    refine wp_seq_k (fun K1019 hK1019 => ?_)
    refine wp_region_lit ?_
    refine wpl_op (i := 0) rfl (o_val (v := (.bool true)) hF75 rfl rfl rfl rfl (rn_assign rfl) ?_)
    intro a1020 hF1021; clear hF75
    refine wpList_nil ?_
    refine hK1019 _ _ ?_
    clear hK1019
    refine wp_ret ?_
    refine ret1 hF1021 rfl rfl ?_
    exact ⟨congrArg (fun b => Ending.returned (.bool b)) (rfl : true = true), ((Ext.refl w).trans hx65)⟩

end Go.Proofs.YtgodliookpgliaaDoor
