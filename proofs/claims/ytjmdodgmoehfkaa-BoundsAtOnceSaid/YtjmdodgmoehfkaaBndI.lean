/- Contract of distances. -/
import Derived.Test.YtjmdodgmoehfkaaProg
import Derived.Test.YtjmdodgmoehfkaaBndE
import Derived.Test.YtjmdodgmoehfkaaBndG
import Derived.KernelRfl
namespace Go.Proofs.Ytjmdodgmoehfkaa
open Go.RowKit

variable {S S' : Nat → Prop}

set_option maxRecDepth 100000 in
set_option maxHeartbeats 1000000 in
theorem distances_any (A : Option Addr) (c nn : Nat) (l : List E3) (w : World) (hf : Fl S w 3 (.slice A l.length c) l.length (edVals l)) (hv : vOk nn l = true) (h0' : 0 < nn) (h8 : nn ≤ 8) (hm : l.length ≤ 31) (hng : ¬ P15.Neg (eds l)) :
    Calls Try.prog 31 #[.agg #[.int .i64 (nn : Nat), .slice A l.length c]] w (fun e w' => ∃ A' m c' t, e = .returned (.slice A' m c') ∧ RIss (fun b => w.heap.size ≤ b) w' (.slice A' m c') t ∧ DistT l nn t ∧ Ext w w') := by
  have hc : Fl (Clip S w) w 3 (.slice A l.length c) l.length (edVals l) := hf.clip
  have hcc := (Fl.cel hc).2.1
  have hnn : nn * nn ≤ 64 := Nat.mul_le_mul h8 h8
  have hnn1 : 1 * 1 ≤ nn * nn := Nat.mul_le_mul h0' h0'
  refine calls_enter (l := [(.agg #[(.int .i64 (nn : Nat)), (.slice A l.length c)])]) Try.func31 rfl rfl rfl (fun aA hF => ?_)
  refine wp_seq_k (fun K1 hK1 => ?_)
  refine wp_region_lit ?_
  refine wpl_op (i := 0) rfl (o_new (fun g => (.pointer (some ⟨g, 0, none⟩))) [(.int .i64 (nn : Nat)), (.slice A l.length c)] 24 hF rfl rfl rfl rfl (rn_box (hF.get rfl) (by kernel_rfl)) ?_)
  intro g2 w3 a8 hF9 z6 z7 b4 hx5; clear hF
  refine wpl_op (i := 1) rfl (o_val (v := (.slice none 0 0)) hF9 rfl rfl rfl rfl (rn_assign rfl) ?_)
  intro a10 hF11; clear hF9
  refine wpList_nil ?_
  refine hK1 _ _ ?_
  clear hK1
  refine wp_seq_k (fun K12 hK12 => ?_)
  refine wp_region_lit ?_
  refine wpl_op (i := 0) rfl (o_val (v := (.pointer (some ⟨g2, 0, none⟩))) hF11 rfl rfl rfl rfl (rn_field Try.underlying24 rfl (by kernel_rfl) (hF11.get rfl) rfl) ?_)
  intro a13 hF14; clear hF11
  refine wpl_op (i := 1) rfl (o_val (v := (.int .i64 (nn : Nat))) hF14 rfl rfl rfl rfl (rn_load (isAgg_no Try.underlying3 rfl) (hF14.get rfl) (b4.rule.1 0)) ?_)
  intro a15 hF16; clear hF14
  refine wpl_op (i := 2) rfl (o_val (v := (.int .i64 (nn : Nat))) hF16 rfl rfl rfl rfl (rn_assign (hF16.get rfl)) ?_)
  intro a17 hF18; clear hF16
  refine wpList_nil ?_
  refine hK12 _ _ ?_
  clear hK12
  refine wp_seq_k (fun K19 hK19 => ?_)
  refine wp_region_lit ?_
  refine wpl_op (i := 0) rfl (o_new (fun g => (.slice (some ⟨g, 0, none⟩) 1 1)) [(.int .i64 1152921504606846976)] 3 hF18 rfl rfl rfl rfl (rn_buildSlice (parts1 rfl) (by kernel_rfl)) ?_)
  intro g20 w21 a26 hF27 z24 z25 b22 hx23; clear hF18
  refine wpl_op (i := 1) rfl (o_val (v := (.int .i64 (nn : Nat))) hF27 rfl rfl rfl rfl (rn_move (hF27.get rfl)) ?_)
  intro a28 hF29; clear hF27
  refine wpl_op (i := 2) rfl (o_val (v := (.int .i64 (nn : Nat))) hF29 rfl rfl rfl rfl (rn_move (hF29.get rfl)) ?_)
  intro a30 hF31; clear hF29
  refine wpl_op (i := 3) rfl (o_val (v := (.int .i64 (nn * nn : Nat))) hF31 rfl rfl rfl rfl (rn_mulN (a := nn) (b := nn) (hF31.get rfl) (hF31.get rfl) (by omega)) ?_)
  intro a32 hF33; clear hF31
  refine wpl_op (i := 4) rfl (o_call hF33 rfl rfl rfl rfl (rn_call (args2 (hF33.get rfl) (hF33.get rfl)) rfl (by kernel_rfl)) (repeat_int _ _ 1152921504606846976 (nn * nn) _ (Fl.blk (S := fun b => b = g20) (k := 1) (n := 1) (c := 1) (cs := intVals [(1152921504606846976 : Int)]) b22 rfl (intVals_one _) (by omega) rfl) (by omega) (by omega)) ?_)
  rintro _ w37 ⟨g34, rfl, hge35, hb36, hx38⟩
  refine ⟨_, rfl, ?_⟩; intro a39 hF40; clear hF33; have z41 := hx38.size
  have z42 := hb36.lt
  refine wpl_op (i := 5) rfl (o_val (v := (.slice (some ⟨g34, 0, none⟩) (nn * nn) (nn * nn))) hF40 rfl rfl rfl rfl (rn_assign (hF40.get rfl)) ?_)
  intro a43 hF44; clear hF40
  refine wpList_nil ?_
  refine hK19 _ _ ?_
  clear hK19
  have hF45 := (((((hF44.nil.cons (hF44.get (t := 4) (v := (.slice (some ⟨g34, 0, none⟩) (nn * nn) (nn * nn))) rfl)).cons (hF44.get (t := 3) (v := (.int .i64 (nn : Nat))) rfl)).cons (hF44.get (t := 2) (v := (.slice none 0 0)) rfl)).cons (hF44.get (t := 1) (v := (.pointer (some ⟨g2, 0, none⟩))) rfl)).cons (hF44.get (t := 0) (v := (.agg #[(.int .i64 (nn : Nat)), (.slice A l.length c)])) rfl))
  clear hF44
  refine wp_seq_k (fun K46 hK46 => ?_)
  refine wp_region_lit ?_
  refine wpl_op (i := 0) rfl (o_val (v := (.slice none 0 0)) hF45 rfl rfl rfl rfl (rn_assign rfl) ?_)
  intro a47 hF48; clear hF45
  refine wpList_nil ?_
  refine hK46 _ _ ?_
  clear hK46
  refine wp_seq_k (fun K49 hK49 => ?_)
  refine wp_seq_k (fun K50 hK50 => ?_)
  refine wp_region_lit ?_
  refine wpl_op (i := 0) rfl (o_val (v := (.int .i64 (nn : Nat))) hF48 rfl rfl rfl rfl (rn_move (hF48.get rfl)) ?_)
  intro a51 hF52; clear hF48
  refine wpl_op (i := 1) rfl (o_val (v := (.int .i64 0)) hF52 rfl rfl rfl rfl (rn_move rfl) ?_)
  intro a53 hF54; clear hF52
  refine wpList_nil ?_
  refine hK50 _ _ ?_
  clear hK50
  refine wp_block ?_
  have b55 : Blk w37 g2 24 [(.int .i64 (nn : Nat)), (.slice A l.length c)] := ((b4.ext hx23).ext hx38)
  have b56 : Blk w37 g20 3 [(.int .i64 1152921504606846976)] := (b22.ext hx38)
  refine wp_loop (fun a' W => ∃ (k : Nat) (Lc : List Int) (Af : Option Addr) (nf : Nat) (cf : Nat) (rv : List Value), Sl 48 [(0, (.agg #[(.int .i64 (nn : Nat)), (.slice A l.length c)])), (1, (.pointer (some ⟨g2, 0, none⟩))), (2, (.slice none 0 0)), (3, (.int .i64 (nn : Nat))), (4, (.slice (some ⟨g34, 0, none⟩) (nn * nn) (nn * nn))), (5, (.slice Af nf cf)), (15, (.int .i64 (nn : Nat))), (16, (.int .i64 (k : Nat)))] a' ∧ (k ≤ nn ∧ nf = k) ∧ DT l nn Lc k ∧ rv = rowsV g34 nn k ∧ Ext w W ∧ Blk W g2 24 [(.int .i64 (nn : Nat)), (.slice A l.length c)] ∧ Blk W g20 3 [(.int .i64 1152921504606846976)] ∧ Blk W g34 3 (intVals Lc) ∧ W.ownsRow w37.heap.size 25 1 (.slice Af nf cf) nf (rawVals rv) ∧ w37.heap.size ≤ W.heap.size ∧ w37.heap.size ≤ W.heap.size) (fun a' _ => nn - (intOf (a'.eval (.tmp 16))).toNat) ⟨0, (List.replicate (nn * nn) 1152921504606846976), none, 0, 0, [], ((((((((hF54.nil.cons (q_get hF54 (t := 16) rfl (by first | rfl | (congr 1; omega) | (congr 1; done)))).cons (q_get hF54 (t := 15) rfl rfl)).cons (q_get hF54 (t := 5) rfl (by first | rfl | (congr 1; omega) | (congr 1; done)))).cons (q_get hF54 (t := 4) rfl rfl)).cons (q_get hF54 (t := 3) rfl rfl)).cons (q_get hF54 (t := 2) rfl rfl)).cons (q_get hF54 (t := 1) rfl rfl)).cons (q_get hF54 (t := 0) rfl rfl)), ⟨by omega, rfl⟩, (DT.start l nn), rfl, ((((Ext.refl w).trans hx5).trans hx23).trans hx38), b55, b56, hb36, (own_nil w37 w37.heap.size 25 1), (by omega), (Nat.le_refl _)⟩ ?_
  clear hF54
  rintro a57 w58 ⟨k, Lc, Af, nf, cf, rv, hF59, hp61, hp62, hp63, hx60, b64, b65, b66, r67, hf68, hf69⟩
  have hL70 := hF59
  have z71 := hx60.size
  have z72 := b64.lt
  have z73 := b65.lt
  have z74 := b66.lt
  have z75 := own_form0 r67
  have hdt := hp62
  have hLl := hdt.len
  refine wp_seq_k (fun K76 hK76 => ?_)
  refine wp_region_lit ?_
  refine wpl_op (i := 0) rfl (o_val (v := (.bool (decide (((k : Nat) : Int) < ((nn : Nat) : Int))))) hF59 rfl rfl rfl rfl (rn_lss (hF59.get rfl) (hF59.get rfl)) ?_)
  intro a77 hF78; clear hF59
  refine wpList_nil ?_
  refine hK76 _ _ ?_
  clear hK76
  refine wp_seq_k (fun K79 hK79 => ?_)
  by_cases hc80 : ((k : Nat) : Int) < ((nn : Nat) : Int)
  · skip
    refine wp_cond_true (c_true hF78 rfl (decide_eq_true hc80)) ?_
    refine wp_skip ?_
    refine hK79 _ _ ?_
    clear hK79
    refine wp_seq_k (fun K81 hK81 => ?_)
    refine wp_block ?_
    refine wp_seq_k (fun K82 hK82 => ?_)
    refine wp_region_lit ?_
    refine wpl_op (i := 0) rfl (o_val (v := (.int .i64 (k : Nat))) hF78 rfl rfl rfl rfl (rn_move (hF78.get rfl)) ?_)
    intro a83 hF84; clear hF78
    refine wpl_op (i := 1) rfl (o_val (v := (.int .i64 (k : Nat))) hF84 rfl rfl rfl rfl (rn_assign (hF84.get rfl)) ?_)
    intro a85 hF86; clear hF84
    refine wpList_nil ?_
    refine hK82 _ _ ?_
    clear hK82
    refine wp_seq_k (fun K87 hK87 => ?_)
    have hk1 : (k + 1) * nn = k * nn + nn := by rw [Nat.add_mul, Nat.one_mul]
    have hk2 := row_fit (show k < nn by omega)
    refine wp_region_lit ?_
    refine wpl_op (i := 0) rfl (o_val (v := (.slice (some ⟨g34, 0, none⟩) (nn * nn) (nn * nn))) hF86 rfl rfl rfl rfl (rn_move (hF86.get rfl)) ?_)
    intro a88 hF89; clear hF86
    refine wpl_op (i := 1) rfl (o_val (v := (.int .i64 (k : Nat))) hF89 rfl rfl rfl rfl (rn_move (hF89.get rfl)) ?_)
    intro a90 hF91; clear hF89
    refine wpl_op (i := 2) rfl (o_val (v := (.int .i64 (nn : Nat))) hF91 rfl rfl rfl rfl (rn_move (hF91.get rfl)) ?_)
    intro a92 hF93; clear hF91
    refine wpl_op (i := 3) rfl (o_val (v := (.int .i64 (k * nn : Nat))) hF93 rfl rfl rfl rfl (rn_mulN (a := k) (b := nn) (hF93.get rfl) (hF93.get rfl) (by omega)) ?_)
    intro a94 hF95; clear hF93
    refine wpl_op (i := 4) rfl (o_val (v := (.int .i64 (k : Nat))) hF95 rfl rfl rfl rfl (rn_move (hF95.get rfl)) ?_)
    intro a96 hF97; clear hF95
    refine wpl_op (i := 5) rfl (o_val (v := (.int .i64 (k + 1 : Nat))) hF97 rfl rfl rfl rfl (rn_addN (a := k) (b := 1) (hF97.get rfl) rfl (by omega)) ?_)
    intro a98 hF99; clear hF97
    refine wpl_op (i := 6) rfl (o_val (v := (.int .i64 (nn : Nat))) hF99 rfl rfl rfl rfl (rn_move (hF99.get rfl)) ?_)
    intro a100 hF101; clear hF99
    refine wpl_op (i := 7) rfl (o_val (v := (.int .i64 ((k + 1) * nn : Nat))) hF101 rfl rfl rfl rfl (rn_mulN (a := k + 1) (b := nn) (hF101.get rfl) (hF101.get rfl) (by omega)) ?_)
    intro a102 hF103; clear hF101
    refine wpl_op (i := 8) rfl (o_val (v := (.int .i64 (k : Nat))) hF103 rfl rfl rfl rfl (rn_move (hF103.get rfl)) ?_)
    intro a104 hF105; clear hF103
    refine wpl_op (i := 9) rfl (o_val (v := (.int .i64 (k + 1 : Nat))) hF105 rfl rfl rfl rfl (rn_addN (a := k) (b := 1) (hF105.get rfl) rfl (by omega)) ?_)
    intro a106 hF107; clear hF105
    refine wpl_op (i := 10) rfl (o_val (v := (.int .i64 (nn : Nat))) hF107 rfl rfl rfl rfl (rn_move (hF107.get rfl)) ?_)
    intro a108 hF109; clear hF107
    refine wpl_op (i := 11) rfl (o_val (v := (.int .i64 ((k + 1) * nn : Nat))) hF109 rfl rfl rfl rfl (rn_mulN (a := k + 1) (b := nn) (hF109.get rfl) (hF109.get rfl) (by omega)) ?_)
    intro a110 hF111; clear hF109
    refine wpl_op (i := 12) rfl (o_val (v := (.slice (some ⟨g34, k * nn, none⟩) nn nn)) hF111 rfl rfl rfl rfl (rn_slice3 (l := (k * nn)) (h := ((k + 1) * nn)) (mx := ((k + 1) * nn)) Try.underlying25 (by kernel_rfl : (Try.prog.info? 3).map (·.size) = some 1) (hF111.get rfl) (hF111.get rfl) (hF111.get rfl) (hF111.get rfl) (by omega) (by omega) (by omega) (by omega) (by omega) (by omega) (by omega)) ?_)
    intro a112 hF113; clear hF111
    refine wpl_op (i := 13) rfl (o_val (v := (.slice (some ⟨g34, k * nn, none⟩) nn nn)) hF113 rfl rfl rfl rfl (rn_assign (hF113.get rfl)) ?_)
    intro a114 hF115; clear hF113
    refine wpList_nil ?_
    refine hK87 _ _ ?_
    clear hK87
    have hF116 := (((((((((((hF115.nil.cons (hF115.get (t := 7) (v := (.slice (some ⟨g34, k * nn, none⟩) nn nn)) rfl)).cons (hF115.get (t := 6) (v := (.int .i64 (k : Nat))) rfl)).cons (hF115.get (t := 17) (v := (.bool (decide (((k : Nat) : Int) < ((nn : Nat) : Int))))) rfl)).cons (hF115.get (t := 16) (v := (.int .i64 (k : Nat))) rfl)).cons (hF115.get (t := 15) (v := (.int .i64 (nn : Nat))) rfl)).cons (hF115.get (t := 5) (v := (.slice Af nf cf)) rfl)).cons (hF115.get (t := 4) (v := (.slice (some ⟨g34, 0, none⟩) (nn * nn) (nn * nn))) rfl)).cons (hF115.get (t := 3) (v := (.int .i64 (nn : Nat))) rfl)).cons (hF115.get (t := 2) (v := (.slice none 0 0)) rfl)).cons (hF115.get (t := 1) (v := (.pointer (some ⟨g2, 0, none⟩))) rfl)).cons (hF115.get (t := 0) (v := (.agg #[(.int .i64 (nn : Nat)), (.slice A l.length c)])) rfl))
    clear hF115
    refine wp_seq_k (fun K117 hK117 => ?_)
    refine wp_region_lit ?_
    refine wpl_op (i := 0) rfl (o_val (v := (.slice (some ⟨g34, k * nn, none⟩) nn nn)) hF116 rfl rfl rfl rfl (rn_move (hF116.get rfl)) ?_)
    intro a118 hF119; clear hF116
    refine wpl_op (i := 1) rfl (o_val (v := (.int .i64 (k : Nat))) hF119 rfl rfl rfl rfl (rn_move (hF119.get rfl)) ?_)
    intro a120 hF121; clear hF119
    refine wpl_op (i := 2) rfl (o_val (v := (.pointer (some ⟨g34, k * nn + k, none⟩))) hF121 rfl rfl rfl rfl (rn_index1 Try.underlying25 (by kernel_rfl : (Try.prog.info? 3).map (·.size) = some 1) (hF121.get rfl) (hF121.get rfl) (by omega : (0 : Int) ≤ (k : Nat)) (by omega : ((k : Nat) : Int) < ((nn : Nat) : Int))) ?_)
    intro a122 hF123; clear hF121
    refine wpl_op (i := 3) rfl (o_store1 (new := (intVals (Lc.set (k * nn + k) 0))) hF123 rfl rfl rfl rfl (hF123.get rfl) rfl b66 (by kernel_rfl : (Try.prog.info? 3).map (·.size) = some 1) (by rw [intVals_len hLl]; omega) rfl (intVals_set (by omega)) ?_)
    intro w124 b125 hg126; have z127 := hg126.size
    refine wpList_nil ?_
    refine hK117 _ _ ?_
    clear hK117
    refine wp_seq_k (fun K128 hK128 => ?_)
    have hx130 : ∃ W, w124.drew = W ∧ Ext w124 W := ⟨_, rfl, (Ext.refl _).drew⟩
    obtain ⟨w129, e131, hx130⟩ := hx130
    have z132 := hx130.size
    refine anyg_start (fun W => Ext w129 W ∧ Blk W g2 24 [(.int .i64 (nn : Nat)), (.slice A l.length c)]) (fun i => i == 6) (fun W => Blk W g2 24 [(.int .i64 (nn : Nat)), (.slice A l.length c)]) 7 #[false, false, false, false, false, false, false] rfl rfl rfl ?_
    rw [e131]; clear e131
    have b134 : Blk w129 g2 24 [(.int .i64 (nn : Nat)), (.slice A l.length c)] := ((b64.grownN hg126 (by omega)).ext hx130)
    have hS133 : Blk w129 g2 24 [(.int .i64 (nn : Nat)), (.slice A l.length c)] := b134
    refine anyg_val2 (i := 0) (v := (.agg #[(.int .i64 (nn : Nat)), (.slice A l.length c)])) hF123 (by decide +kernel) (by decide +kernel) rfl rfl rfl rfl (fun _ _ _ _ h => h) rfl hS133 (fun W hW => (rn_loadBlk (hF123.get rfl) hW Try.underlying24 rfl (by kernel_rfl : (Try.prog.info? 24).map (·.size) = some 2))) ?_
    intro a135 hF136; clear hF123
    refine anyg_pure (i := 1) (v := (.slice (some ⟨g34, k * nn, none⟩) nn nn)) hF136 (by decide +kernel) (by decide +kernel) rfl rfl rfl rfl (fun _ _ _ _ h => h) rfl (fun W => (rn_move (hF136.get rfl))) ?_
    intro a137 hF138; clear hF136
    refine anyg_pure (i := 2) (v := (.int .i64 (nn : Nat))) hF138 (by decide +kernel) (by decide +kernel) rfl rfl rfl rfl (fun _ _ _ _ h => h) rfl (fun W => (rn_move (hF138.get rfl))) ?_
    intro a139 hF140; clear hF138
    refine anyg_one (i := 3) (by decide +kernel) rfl ?_
    refine o_new (fun g => (.slice (some ⟨g, 0, none⟩) nn nn)) (intVals (List.replicate nn 0)) 3 hF140 rfl rfl rfl rfl (rn_makeN El25 rfl (hF140.get rfl) (hF140.get rfl) (by omega) (by omega) (by simp [intVals])) ?_
    intro g141 w142 a147 hF148 z145 z146 b143 hx144; clear hF140
    have b149 : Blk w142 g2 24 [(.int .i64 (nn : Nat)), (.slice A l.length c)] := (b134.ext hx144)
    refine ⟨⟨fun _ _ => ⟨((Ext.refl w129).trans hx144), b149⟩, fun _ => b149⟩, ?_⟩
    refine anyg_pure (i := 4) (v := (.agg #[(.int .i64 (nn : Nat)), (.slice A l.length c), (.slice (some ⟨g34, k * nn, none⟩) nn nn), (.slice (some ⟨g141, 0, none⟩) nn nn)])) hF148 (by decide +kernel) (by decide +kernel) rfl rfl rfl rfl (fun _ _ _ _ h => h) rfl (fun W => (rn_build (parts3 (hF148.get rfl) (hF148.get rfl) (hF148.get rfl)) (by kernel_rfl))) ?_
    intro a150 hF151; clear hF148
    refine anyg_one (i := 5) (by decide +kernel) rfl ?_
    refine o_new (fun g => (.pointer (some ⟨g, 0, none⟩))) [(.int .i64 (nn : Nat)), (.slice A l.length c), (.slice (some ⟨g34, k * nn, none⟩) nn nn), (.slice (some ⟨g141, 0, none⟩) nn nn)] 61 hF151 rfl rfl rfl rfl (rn_box (hF151.get rfl) (by kernel_rfl)) ?_
    intro g152 w153 a158 hF159 z156 z157 b154 hx155; clear hF151
    have b160 : Blk w153 g2 24 [(.int .i64 (nn : Nat)), (.slice A l.length c)] := (b149.ext hx155)
    refine ⟨⟨fun _ _ => ⟨(((Ext.refl w129).trans hx144).trans hx155), b160⟩, fun _ => b160⟩, ?_⟩
    refine anyg_one (i := 6) (by decide +kernel) rfl ?_
    have hf161 := b154
    have b162 : Blk w153 g34 3 (intVals (Lc.set (k * nn + k) 0)) := (((b125.ext hx130).ext hx144).ext hx155)
    have hf163 := b162
    have b164 : Blk w153 g141 3 (intVals (List.replicate nn 0)) := (b143.ext hx155)
    have hf165 := b164
    have d166 := (hc.pres ((((((Pres.refl w).ext hx60).grownN hg126 (fun h => by simp only [Clip] at h; omega)).ext hx130).ext hx144).ext hx155))
    have hf167 := d166
    refine o_call hF159 rfl rfl rfl rfl (rn_call (args1 (hF159.get rfl)) rfl (by kernel_rfl)) (run_any (G := (P15.Reach (eds l) k)) g152 g34 (k * nn) nn g141 nn nn A c l (Lc.set (k * nn + k) 0) (List.replicate nn 0) _ P15.none_ hf161 hf163 hf165 (by simp) (by rw [List.length_set, hdt.len]; exact row_fit (by omega)) hf167 (fun h => by simp only [Clip] at h; omega) (fun h => by simp only [Clip] at h; omega) (by omega) (by omega) (by omega) hv (by omega) h8 hm (keeps_reach _ _) (rep_pos nn) (hdt.h0 (by omega)) (hdt.g0 (by omega))) ?_
    rintro _ w173 ⟨last168, L169, D170, rfl, hran171, b174, b175, ht176⟩
    have z182 := ht176.size
    obtain ⟨w177, hg178, hg179⟩ := ht176.split b164.lt
    refine ⟨_, rfl, ?_⟩; intro a180 hF181; clear hF159; have z183 := hg178.size; have z184 := hg179.size
    have b185 : Blk w173 g2 24 [(.int .i64 (nn : Nat)), (.slice A l.length c)] := ((b160.grownN hg178 (by omega)).grownN hg179 (by omega))
    refine ⟨⟨fun h => absurd h (by decide), fun _ => b185⟩, ?_⟩
    have hD_D170 := hran171.dlen
    refine anyg_nil (by decide +kernel) ?_
    refine hK128 _ _ ?_
    clear hK128
    have hF186 := (((((((((((hF181.nil.cons (hF181.get (t := 7) (v := (.slice (some ⟨g34, k * nn, none⟩) nn nn)) rfl)).cons (hF181.get (t := 6) (v := (.int .i64 (k : Nat))) rfl)).cons (hF181.get (t := 17) (v := (.bool (decide (((k : Nat) : Int) < ((nn : Nat) : Int))))) rfl)).cons (hF181.get (t := 16) (v := (.int .i64 (k : Nat))) rfl)).cons (hF181.get (t := 15) (v := (.int .i64 (nn : Nat))) rfl)).cons (hF181.get (t := 5) (v := (.slice Af nf cf)) rfl)).cons (hF181.get (t := 4) (v := (.slice (some ⟨g34, 0, none⟩) (nn * nn) (nn * nn))) rfl)).cons (hF181.get (t := 3) (v := (.int .i64 (nn : Nat))) rfl)).cons (hF181.get (t := 2) (v := (.slice none 0 0)) rfl)).cons (hF181.get (t := 1) (v := (.pointer (some ⟨g2, 0, none⟩))) rfl)).cons (hF181.get (t := 0) (v := (.agg #[(.int .i64 (nn : Nat)), (.slice A l.length c)])) rfl))
    clear hF181
    refine wp_region_lit ?_
    refine wpl_op (i := 0) rfl (o_val (v := (.slice Af nf cf)) hF186 rfl rfl rfl rfl (rn_move (hF186.get rfl)) ?_)
    intro a187 hF188; clear hF186
    refine wpl_op (i := 1) rfl (o_val (v := (.slice (some ⟨g34, k * nn, none⟩) nn nn)) hF188 rfl rfl rfl rfl (rn_move (hF188.get rfl)) ?_)
    intro a189 hF190; clear hF188
    refine wpl_op (i := 2) rfl (o_new (fun g => (.slice (some ⟨g, 0, none⟩) 1 1)) [(.slice (some ⟨g34, k * nn, none⟩) nn nn)] 25 hF190 rfl rfl rfl rfl (rn_buildSlice (parts1 (hF190.get rfl)) (by kernel_rfl)) ?_)
    intro g191 w192 a197 hF198 z195 z196 b193 hx194; clear hF190
    have r199 := (own_ext (own_grownT (own_grownT (own_ext (own_ext (own_ext (own_grownT r67 b66 hg126 (by decide)) hx130) hx144) hx155) b162 hg178 (by decide)) (b164.grownN hg178 (by omega)) hg179 (by decide)) hx194)
    have hf207 := r199
    refine wpl_op (i := 3) rfl (o_appA (zs := rawVals (rv ++ ([(.slice (some ⟨g34, k * nn, none⟩) nn nn)]))) El33 hF198 rfl rfl rfl rfl rfl (hF198.get rfl) (hF198.get rfl) hf207 (Fl.cel (Fl.blk (S := fun b => b = g191) (k := 1) (n := 1) (c := 1) (cs := rawVals [(.slice (some ⟨g34, k * nn, none⟩) nn nn)]) b193 rfl (one_slices (by simp)) (by omega) rfl)).2.2 (by omega) (by omega) (by omega) (rawVals_app _ _) ?_)
    intro A200 c201 w202 a208 hF209 r203 hg204 z205 z206; clear hF198; have z210 := hg204.size
    refine wpl_op (i := 4) rfl (o_val (v := (.slice A200 (nf + 1) c201)) hF209 rfl rfl rfl rfl (rn_assign (hF209.get rfl)) ?_)
    intro a211 hF212; clear hF209
    refine wpList_nil ?_
    refine hK81 _ _ ?_
    clear hK81
    have hF213 := (((((((((((hF212.nil.cons (hF212.get (t := 7) (v := (.slice (some ⟨g34, k * nn, none⟩) nn nn)) rfl)).cons (hF212.get (t := 6) (v := (.int .i64 (k : Nat))) rfl)).cons (hF212.get (t := 17) (v := (.bool (decide (((k : Nat) : Int) < ((nn : Nat) : Int))))) rfl)).cons (hF212.get (t := 16) (v := (.int .i64 (k : Nat))) rfl)).cons (hF212.get (t := 15) (v := (.int .i64 (nn : Nat))) rfl)).cons (hF212.get (t := 5) (v := (.slice A200 (nf + 1) c201)) rfl)).cons (hF212.get (t := 4) (v := (.slice (some ⟨g34, 0, none⟩) (nn * nn) (nn * nn))) rfl)).cons (hF212.get (t := 3) (v := (.int .i64 (nn : Nat))) rfl)).cons (hF212.get (t := 2) (v := (.slice none 0 0)) rfl)).cons (hF212.get (t := 1) (v := (.pointer (some ⟨g2, 0, none⟩))) rfl)).cons (hF212.get (t := 0) (v := (.agg #[(.int .i64 (nn : Nat)), (.slice A l.length c)])) rfl))
    clear hF212
    refine wp_region_lit ?_
    refine wpl_op (i := 0) rfl (o_val (v := (.int .i64 (k + 1 : Nat))) hF213 rfl rfl rfl rfl (rn_addN (a := k) (b := 1) (hF213.get rfl) rfl (by omega)) ?_)
    intro a214 hF215; clear hF213
    refine wpl_op (i := 1) rfl (o_val (v := (.int .i64 (k + 1 : Nat))) hF215 rfl rfl rfl rfl (rn_move (hF215.get rfl)) ?_)
    intro a216 hF217; clear hF215
    refine wpList_nil ?_
    have b218 : Blk w202 g2 24 [(.int .i64 (nn : Nat)), (.slice A l.length c)] := (grown_blk hf207 hg204 (b185.ext hx194) (by decide))
    have b219 : Blk w202 g20 3 [(.int .i64 1152921504606846976)] := (grown_blk hf207 hg204 (((((((b65.grownN hg126 (by omega)).ext hx130).ext hx144).ext hx155).grownN hg178 (by omega)).grownN hg179 (by omega)).ext hx194) (by decide))
    have b220 : Blk w202 g34 3 (intVals L169) := (grown_blk hf207 hg204 (b174.ext hx194) (by decide))
    refine ⟨⟨(k + 1), L169, A200, nf + 1, c201, rv ++ ([(.slice (some ⟨g34, k * nn, none⟩) nn nn)]), ((((((((hF217.nil.cons (q_get hF217 (t := 16) rfl (by first | rfl | (congr 1; omega) | (congr 1; done)))).cons (q_get hF217 (t := 15) rfl rfl)).cons (q_get hF217 (t := 5) rfl (by first | rfl | (congr 1; omega) | (congr 1; done)))).cons (q_get hF217 (t := 4) rfl rfl)).cons (q_get hF217 (t := 3) rfl rfl)).cons (q_get hF217 (t := 2) rfl rfl)).cons (q_get hF217 (t := 1) rfl rfl)).cons (q_get hF217 (t := 0) rfl rfl)), ⟨by omega, by omega⟩, (hdt.step (by omega) hv hng hran171), (by rw [hp63]; exact rowsV_step _ _ _), (ext_row (((((((((Ext.refl w).trans hx60).grownN hg126 (by omega)).trans hx130).trans hx144).trans hx155).grownN hg178 (by omega)).grownN hg179 (by omega)).trans hx194) hg204 hf207 (by omega)), b218, b219, b220, r203, (by omega), (by omega)⟩, ?_⟩
    rw [hF217.get (t := 16) rfl, hL70.get (t := 16) rfl]; simp [intOf] <;> omega
  · skip
    refine wp_cond_false (c_false hF78 rfl (decide_eq_false hc80)) ?_
    refine wp_exit ?_
    refine exit_then ?_
    refine exit_then ?_
    refine exit_here ?_
    refine hK49 _ _ ?_
    clear hK49
    refine wp_seq_k (fun K221 hK221 => ?_)
    refine wp_region_lit ?_
    refine wpl_op (i := 0) rfl (o_val (v := (.slice Af nf cf)) hF78 rfl rfl rfl rfl (rn_move (hF78.get rfl)) ?_)
    intro a222 hF223; clear hF78
    refine wpl_op (i := 1) rfl (o_val (v := (.slice Af nf cf)) hF223 rfl rfl rfl rfl (rn_assign (hF223.get rfl)) ?_)
    intro a224 hF225; clear hF223
    refine wpList_nil ?_
    refine hK221 _ _ ?_
    clear hK221
    refine wp_ret ?_
    refine ret1 hF225 rfl rfl ?_
    have hk : k = nn := by omega
    have hf226 := r67
    have hf227 := b66
    have hf228 := ((Ext.refl w).trans hx60)
    have hnf : nf = nn := by omega
    rw [hk] at hdt
    rw [hp63, hk] at hf226
    rw [hnf] at hf226
    exact ⟨_, _, _, tabOf nn Lc, by rw [hnf], RIss.own (S := fun b => w.heap.size ≤ b) hf226 (fun b hb => by omega) hdt.tab.len (rowsV_one _ _ _) (rows_read hf227 hdt.len (by omega) (by omega)), hdt.tab, hf228⟩

end Go.Proofs.Ytjmdodgmoehfkaa
