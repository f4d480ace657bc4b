/- Contracts of Holds. -/
import Derived.Test.YtjmdodgmoehfkaaProg
import Derived.Test.YtjmdodgmoehfkaaBndB
import Derived.KernelRfl
namespace Go.Proofs.Ytjmdodgmoehfkaa
open Go.RowKit

variable {S S' : Nat → Prop}

set_option maxRecDepth 100000 in
set_option maxHeartbeats 1000000 in
theorem wide_any (x : Int) (w : World) :
    Calls Try.prog 26 #[.int .i64 x] w (fun e w' => e = .returned (.bool (wide x)) ∧ Ext w w') := by
  refine calls_enter (l := [(.int .i64 x)]) Try.func26 rfl rfl rfl (fun aA hF => ?_)
  refine wp_seq_k (fun K1 hK1 => ?_)
  refine wp_region_lit ?_
  refine wpl_op (i := 0) rfl (o_val (v := (.bool false)) hF rfl rfl rfl rfl (rn_assign rfl) ?_)
  intro a2 hF3; clear hF
  refine wpList_nil ?_
  refine hK1 _ _ ?_
  clear hK1
  refine wp_seq_k (fun K4 hK4 => ?_)
  refine wp_region_lit ?_
  refine wpl_op (i := 0) rfl (o_val (v := (.int .i64 x)) hF3 rfl rfl rfl rfl (rn_move (hF3.get rfl)) ?_)
  intro a5 hF6; clear hF3
  refine wpl_op (i := 1) rfl (o_val (v := (.bool (decide ((x : Int) < (-1152921504606846976 : Int))))) hF6 rfl rfl rfl rfl (rn_lss (hF6.get rfl) rfl) ?_)
  intro a7 hF8; clear hF6
  refine wpl_op (i := 2) rfl (o_val (v := (.bool (decide ((x : Int) < (-1152921504606846976 : Int))))) hF8 rfl rfl rfl rfl (rn_move (hF8.get rfl)) ?_)
  intro a9 hF10; clear hF8
  by_cases hc11 : (x : Int) < (-1152921504606846976 : Int)
  · skip
    refine wpl_op (i := 3) rfl (o_skip hF10 rfl (unwanted_guard rfl rfl rfl hF10 rfl (decide_eq_true hc11) rfl) rfl rfl ?_)
    intro a12 hF13; clear hF10
    refine wpl_op (i := 4) rfl (o_skip hF13 rfl (unwanted_guard rfl rfl rfl hF13 rfl (decide_eq_true hc11) rfl) rfl rfl ?_)
    intro a14 hF15; clear hF13
    refine wpl_op (i := 5) rfl (o_val (v := (.bool true)) hF15 rfl rfl rfl rfl (rn_pickT (c_true hF15 rfl (decide_eq_true hc11)) rfl) ?_)
    intro a16 hF17; clear hF15
    refine wpl_op (i := 6) rfl (o_val (v := (.bool true)) hF17 rfl rfl rfl rfl (rn_assign (hF17.get rfl)) ?_)
    intro a18 hF19; clear hF17
    refine wpList_nil ?_
    refine hK4 _ _ ?_
    clear hK4
    have hF20 := ((hF19.nil.cons (hF19.get (t := 2) (v := (.bool true)) rfl)).cons (hF19.get (t := 0) (v := (.int .i64 x)) rfl))
    clear hF19
    refine wp_ret ?_
    refine ret1 hF20 rfl rfl ?_
    exact ⟨by rw [wide, if_pos (by omega)], (Ext.refl w)⟩
  · skip
    refine wpl_op (i := 3) rfl (o_val (v := (.int .i64 x)) hF10 rfl (wanted_guard rfl rfl rfl hF10 rfl (decide_eq_false hc11) rfl) rfl rfl (rn_move (hF10.get rfl)) ?_)
    intro a21 hF22; clear hF10
    refine wpl_op (i := 4) rfl (o_val (v := (.bool (decide ((1152921504606846976 : Int) < (x : Int))))) hF22 rfl (wanted_guard rfl rfl rfl hF22 rfl (decide_eq_false hc11) rfl) rfl rfl (rn_gtr (hF22.get rfl) rfl) ?_)
    intro a23 hF24; clear hF22
    refine wpl_op (i := 5) rfl (o_val (v := (.bool (decide ((1152921504606846976 : Int) < (x : Int))))) hF24 rfl rfl rfl rfl (rn_pickF (c_false hF24 rfl (decide_eq_false hc11)) (hF24.get rfl)) ?_)
    intro a25 hF26; clear hF24
    refine wpl_op (i := 6) rfl (o_val (v := (.bool (decide ((1152921504606846976 : Int) < (x : Int))))) hF26 rfl rfl rfl rfl (rn_assign (hF26.get rfl)) ?_)
    intro a27 hF28; clear hF26
    refine wpList_nil ?_
    refine hK4 _ _ ?_
    clear hK4
    have hF29 := ((hF28.nil.cons (hF28.get (t := 2) (v := (.bool (decide ((1152921504606846976 : Int) < (x : Int))))) rfl)).cons (hF28.get (t := 0) (v := (.int .i64 x)) rfl))
    clear hF28
    refine wp_ret ?_
    refine ret1 hF29 rfl rfl ?_
    exact ⟨by rw [wide, if_neg (by omega)], (Ext.refl w)⟩

set_option maxRecDepth 100000 in
set_option maxHeartbeats 1000000 in
theorem brk_any (xa xb xw : Int) (gv : Nat) (V : Option Addr) (vc : Nat) (v : List Int) (w : World) (hb : Blk w gv 25 [.slice V v.length vc]) (hf : Fl S w 1 (.slice V v.length vc) v.length (intVals v)) (hwd : v.any wide = false) (ha : 0 ≤ xa ∧ xa < v.length) (hbb : 0 ≤ xb ∧ xb < v.length) (hww : -35184372088832 ≤ xw ∧ xw ≤ 35184372088832) :
    Calls Try.prog 28 #[.agg #[.int .i64 xa, .int .i64 xb, .int .i64 xw], .pointer (some ⟨gv, 0, none⟩)] w (fun e w' => e = .returned (.bool (brk v ⟨xa, xb, xw⟩)) ∧ Ext w w') := by
  have hv : Fl (Clip S w) w 1 (.slice V v.length vc) v.length (intVals v) := hf.clip
  have hcc := (Fl.cel hv).2.1
  have hg := hb.lt
  have hw1 := wide_at hwd (j := xa.toNat) (by omega)
  refine calls_enter (l := [(.agg #[(.int .i64 xa), (.int .i64 xb), (.int .i64 xw)]), (.pointer (some ⟨gv, 0, none⟩))]) Try.func28 rfl rfl rfl (fun aA hF => ?_)
  refine wp_seq_k (fun K1 hK1 => ?_)
  refine wp_region_lit ?_
  refine wpl_op (i := 0) rfl (o_new (fun g => (.pointer (some ⟨g, 0, none⟩))) [(.int .i64 xa), (.int .i64 xb), (.int .i64 xw)] 41 hF rfl rfl rfl rfl (rn_box (hF.get rfl) (by kernel_rfl)) ?_)
  intro g2 w3 a8 hF9 z6 z7 b4 hx5; clear hF
  refine wpl_op (i := 1) rfl (o_val (v := (.bool false)) hF9 rfl rfl rfl rfl (rn_assign rfl) ?_)
  intro a10 hF11; clear hF9
  refine wpList_nil ?_
  refine hK1 _ _ ?_
  clear hK1
  refine wp_seq_k (fun K12 hK12 => ?_)
  have hx14 : ∃ W, w3.drew = W ∧ Ext w3 W := ⟨_, rfl, (Ext.refl _).drew⟩
  obtain ⟨w13, e15, hx14⟩ := hx14
  have z16 := hx14.size
  refine any_start (fun W => Ext w13 W ∧ Blk W gv 25 [(.slice V v.length vc)] ∧ Blk W g2 41 [(.int .i64 xa), (.int .i64 xb), (.int .i64 xw)]) (fun i => false) 15 #[false, false, false, false, false, false, false, false, false, false, false, false, false, false, false] rfl rfl rfl ?_
  rw [e15]; clear e15
  have b18 : Blk w13 gv 25 [(.slice V v.length vc)] := ((hb.ext hx5).ext hx14)
  have b19 : Blk w13 g2 41 [(.int .i64 xa), (.int .i64 xb), (.int .i64 xw)] := (b4.ext hx14)
  have hS17 : Ext w13 w13 ∧ Blk w13 gv 25 [(.slice V v.length vc)] ∧ Blk w13 g2 41 [(.int .i64 xa), (.int .i64 xb), (.int .i64 xw)] := ⟨(Ext.refl w13), b18, b19⟩
  refine any_val (i := 0) (v := (.slice V v.length vc)) hF11 (by decide +kernel) (by decide +kernel) rfl rfl rfl rfl (fun _ _ _ _ h => h) rfl hS17 (fun W hW => (rn_load (isAgg_no Try.underlying25 rfl) (hF11.get rfl) (hW.2.1.rule.1 0))) ?_
  intro a20 hF21; clear hF11
  refine any_pure (i := 1) (v := (.pointer (some ⟨g2, 1, none⟩))) hF21 (by decide +kernel) (by decide +kernel) rfl rfl rfl rfl (fun _ _ _ _ h => h) rfl (fun W => (rn_field Try.underlying41 rfl (by kernel_rfl) (hF21.get rfl) rfl)) ?_
  intro a22 hF23; clear hF21
  refine any_val (i := 2) (v := (.int .i64 xb)) hF23 (by decide +kernel) (by decide +kernel) rfl rfl rfl rfl (fun _ _ _ _ h => h) rfl hS17 (fun W hW => (rn_load (isAgg_no Try.underlying3 rfl) (hF23.get rfl) (hW.2.2.rule.1 1))) ?_
  intro a24 hF25; clear hF23
  have d29 := ((hv.ext hx5).ext hx14)
  obtain ⟨b26, o27, hA28, -⟩ := Fl.at d29 (by omega)
  refine any_pure (i := 3) (v := (.pointer (some ⟨b26, o27 + (xb : Int).toNat, none⟩))) hF25 (by decide +kernel) (by decide +kernel) rfl rfl rfl rfl (fun _ _ _ _ h => h) rfl (fun W => (rn_index1 Try.underlying25 (by kernel_rfl : (Try.prog.info? 3).map (·.size) = some 1) ((hF25.get rfl).trans (by rw [hA28])) (hF25.get rfl) (by omega : (0 : Int) ≤ xb) (by omega : (xb : Int) < ((v.length : Nat) : Int)))) ?_
  intro a30 hF31; clear hF25
  refine any_val (i := 4) (v := (.int .i64 (v.getD ((xb : Int).toNat) 0))) hF31 (by decide +kernel) (by decide +kernel) rfl rfl rfl rfl (fun _ _ _ _ h => h) rfl hS17 (fun W hW => (rn_load (isAgg_no Try.underlying3 rfl) (hF31.get rfl) (Fl.cellAt (d29.ext hW.1) hA28 (intVals_at (i := (xb : Int).toNat) (by omega))))) ?_
  intro a32 hF33; clear hF31
  refine any_val (i := 5) (v := (.slice V v.length vc)) hF33 (by decide +kernel) (by decide +kernel) rfl rfl rfl rfl (fun _ _ _ _ h => h) rfl hS17 (fun W hW => (rn_load (isAgg_no Try.underlying25 rfl) (hF33.get rfl) (hW.2.1.rule.1 0))) ?_
  intro a34 hF35; clear hF33
  refine any_pure (i := 6) (v := (.pointer (some ⟨g2, 0, none⟩))) hF35 (by decide +kernel) (by decide +kernel) rfl rfl rfl rfl (fun _ _ _ _ h => h) rfl (fun W => (rn_field Try.underlying41 rfl (by kernel_rfl) (hF35.get rfl) rfl)) ?_
  intro a36 hF37; clear hF35
  refine any_val (i := 7) (v := (.int .i64 xa)) hF37 (by decide +kernel) (by decide +kernel) rfl rfl rfl rfl (fun _ _ _ _ h => h) rfl hS17 (fun W hW => (rn_load (isAgg_no Try.underlying3 rfl) (hF37.get rfl) (hW.2.2.rule.1 0))) ?_
  intro a38 hF39; clear hF37
  refine any_pure (i := 8) (v := (.pointer (some ⟨b26, o27 + (xa : Int).toNat, none⟩))) hF39 (by decide +kernel) (by decide +kernel) rfl rfl rfl rfl (fun _ _ _ _ h => h) rfl (fun W => (rn_index1 Try.underlying25 (by kernel_rfl : (Try.prog.info? 3).map (·.size) = some 1) ((hF39.get rfl).trans (by rw [hA28])) (hF39.get rfl) (by omega : (0 : Int) ≤ xa) (by omega : (xa : Int) < ((v.length : Nat) : Int)))) ?_
  intro a40 hF41; clear hF39
  refine any_val (i := 9) (v := (.int .i64 (v.getD ((xa : Int).toNat) 0))) hF41 (by decide +kernel) (by decide +kernel) rfl rfl rfl rfl (fun _ _ _ _ h => h) rfl hS17 (fun W hW => (rn_load (isAgg_no Try.underlying3 rfl) (hF41.get rfl) (Fl.cellAt (d29.ext hW.1) hA28 (intVals_at (i := (xa : Int).toNat) (by omega))))) ?_
  intro a42 hF43; clear hF41
  refine any_pure (i := 10) (v := (.pointer (some ⟨g2, 2, none⟩))) hF43 (by decide +kernel) (by decide +kernel) rfl rfl rfl rfl (fun _ _ _ _ h => h) rfl (fun W => (rn_field Try.underlying41 rfl (by kernel_rfl) (hF43.get rfl) rfl)) ?_
  intro a44 hF45; clear hF43
  refine any_val (i := 11) (v := (.int .i64 xw)) hF45 (by decide +kernel) (by decide +kernel) rfl rfl rfl rfl (fun _ _ _ _ h => h) rfl hS17 (fun W hW => (rn_load (isAgg_no Try.underlying3 rfl) (hF45.get rfl) (hW.2.2.rule.1 2))) ?_
  intro a46 hF47; clear hF45
  refine any_pure (i := 12) (v := (.int .i64 ((v.getD ((xa : Int).toNat) 0) + xw))) hF47 (by decide +kernel) (by decide +kernel) rfl rfl rfl rfl (fun _ _ _ _ h => h) rfl (fun W => (rn_add (hF47.get rfl) (hF47.get rfl) (by omega) (by omega))) ?_
  intro a48 hF49; clear hF47
  refine any_pure (i := 13) (v := (.bool (decide (((v.getD ((xa : Int).toNat) 0) + xw : Int) < ((v.getD ((xb : Int).toNat) 0) : Int))))) hF49 (by decide +kernel) (by decide +kernel) rfl rfl rfl rfl (fun _ _ _ _ h => h) rfl (fun W => (rn_gtr (hF49.get rfl) (hF49.get rfl))) ?_
  intro a50 hF51; clear hF49
  refine any_pure (i := 14) (v := (.bool (decide (((v.getD ((xa : Int).toNat) 0) + xw : Int) < ((v.getD ((xb : Int).toNat) 0) : Int))))) hF51 (by decide +kernel) (by decide +kernel) rfl rfl rfl rfl (fun _ _ _ _ h => h) rfl (fun W => (rn_assign (hF51.get rfl))) ?_
  intro a52 hF53; clear hF51
  refine any_nil (by decide +kernel) ?_
  refine hK12 _ _ ?_
  clear hK12
  have hF54 := ((((hF53.nil.cons (hF53.get (t := 3) (v := (.bool (decide (((v.getD ((xa : Int).toNat) 0) + xw : Int) < ((v.getD ((xb : Int).toNat) 0) : Int))))) rfl)).cons (hF53.get (t := 2) (v := (.pointer (some ⟨g2, 0, none⟩))) rfl)).cons (hF53.get (t := 1) (v := (.pointer (some ⟨gv, 0, none⟩))) rfl)).cons (hF53.get (t := 0) (v := (.agg #[(.int .i64 xa), (.int .i64 xb), (.int .i64 xw)])) rfl))
  clear hF53
  refine wp_ret ?_
  refine ret1 hF54 rfl rfl ?_
  exact ⟨rfl, (((Ext.refl w).trans hx5).trans hx14)⟩

set_option maxRecDepth 100000 in
set_option maxHeartbeats 1000000 in
theorem bholds_any (A : Option Addr) (c : Nat) (n : Int) (l : List E3) (V : Option Addr) (vc : Nat) (v : List Int) (w : World) (hf : Fl S w 3 (.slice A l.length c) l.length (edVals l)) (hfv : Fl S' w 1 (.slice V v.length vc) v.length (intVals v)) :
    Calls Try.prog 11 #[.agg #[.int .i64 n, .slice A l.length c], .slice V v.length vc] w (fun e w' => e = .returned (.tuple #[.bool (hld n l v), .int .i64 (chk n l)]) ∧ Ext w w') := by
  have hc : Fl (Clip S w) w 3 (.slice A l.length c) l.length (edVals l) := hf.clip
  have hcc := (Fl.cel hc).2.1
  have hv : Fl (Clip S' w) w 1 (.slice V v.length vc) v.length (intVals v) := hfv.clip
  have hcv := (Fl.cel hv).2.1
  refine calls_enter (l := [(.agg #[(.int .i64 n), (.slice A l.length c)]), (.slice V v.length vc)]) Try.func11 rfl rfl rfl (fun aA hF => ?_)
  refine wp_seq_k (fun K1 hK1 => ?_)
  refine wp_region_lit ?_
  refine wpl_op (i := 0) rfl (o_new (fun g => (.pointer (some ⟨g, 0, none⟩))) [(.int .i64 n), (.slice A l.length c)] 24 hF rfl rfl rfl rfl (rn_box (hF.get rfl) (by kernel_rfl)) ?_)
  intro g2 w3 a8 hF9 z6 z7 b4 hx5; clear hF
  refine wpl_op (i := 1) rfl (o_new (fun g => (.pointer (some ⟨g, 0, none⟩))) [(.slice V v.length vc)] 25 hF9 rfl rfl rfl rfl (rn_box (hF9.get rfl) (by kernel_rfl)) ?_)
  intro g10 w11 a16 hF17 z14 z15 b12 hx13; clear hF9
  refine wpl_op (i := 2) rfl (o_val (v := (.bool false)) hF17 rfl rfl rfl rfl (rn_assign rfl) ?_)
  intro a18 hF19; clear hF17
  refine wpl_op (i := 3) rfl (o_val (v := (.int .i64 0)) hF19 rfl rfl rfl rfl (rn_assign rfl) ?_)
  intro a20 hF21; clear hF19
  refine wpList_nil ?_
  refine hK1 _ _ ?_
  clear hK1
  refine wp_seq_k (fun K22 hK22 => ?_)
  refine wp_seq_k (fun K23 hK23 => ?_)
  refine wp_region_lit ?_
  have b24 : Blk w11 g2 24 [(.int .i64 n), (.slice A l.length c)] := (b4.ext hx13)
  refine wpl_op (i := 0) rfl (o_val (v := (.agg #[(.int .i64 n), (.slice A l.length c)])) hF21 rfl rfl rfl rfl (rn_loadBlk (hF21.get rfl) b24 Try.underlying24 rfl (by kernel_rfl : (Try.prog.info? 24).map (·.size) = some 2)) ?_)
  intro a25 hF26; clear hF21
  have d27 := ((hc.ext hx5).ext hx13)
  refine wpl_op (i := 1) rfl (o_call hF26 rfl rfl rfl rfl (rn_call (args1 (hF26.get rfl)) rfl (by kernel_rfl)) (bcheck_at (v := (.slice A l.length c)) n l _ d27) ?_)
  rintro _ w28 ⟨rfl, hx29⟩
  refine ⟨_, rfl, ?_⟩; intro a30 hF31; clear hF26; have z32 := hx29.size
  refine wpl_op (i := 2) rfl (o_val (v := (.int .i64 (chk n l))) hF31 rfl rfl rfl rfl (rn_assign (hF31.get rfl)) ?_)
  intro a33 hF34; clear hF31
  refine wpList_nil ?_
  refine hK23 _ _ ?_
  clear hK23
  refine wp_seq_k (fun K35 hK35 => ?_)
  refine wp_region_lit ?_
  refine wpl_op (i := 0) rfl (o_val (v := (.int .i64 (chk n l))) hF34 rfl rfl rfl rfl (rn_move (hF34.get rfl)) ?_)
  intro a36 hF37; clear hF34
  refine wpl_op (i := 1) rfl (o_val (v := (.bool (decide (((chk n l) : Int) ≠ (0 : Int))))) hF37 rfl rfl rfl rfl (rn_neq (hF37.get rfl) rfl) ?_)
  intro a38 hF39; clear hF37
  refine wpList_nil ?_
  refine hK35 _ _ ?_
  clear hK35
  by_cases hc40 : ((chk n l) : Int) ≠ (0 : Int)
  · skip
    refine wp_cond_true (c_true hF39 rfl (decide_eq_true hc40)) ?_
    refine wp_seq_k (fun K41 hK41 => ?_)
    refine wp_region_lit ?_
    refine wpl_op (i := 0) rfl (o_val (v := (.int .i64 (chk n l))) hF39 rfl rfl rfl rfl (rn_move (hF39.get rfl)) ?_)
    intro a42 hF43; clear hF39
    refine wpl_op (i := 1) rfl (o_val (v := (.bool false)) hF43 rfl rfl rfl rfl (rn_assign rfl) ?_)
    intro a44 hF45; clear hF43
    refine wpl_op (i := 2) rfl (o_val (v := (.int .i64 (chk n l))) hF45 rfl rfl rfl rfl (rn_assign (hF45.get rfl)) ?_)
    intro a46 hF47; clear hF45
    refine wpList_nil ?_
    refine hK41 _ _ ?_
    clear hK41
    have hF48 := ((((((((hF47.nil.cons (hF47.get (t := 12) (v := (.bool (decide (((chk n l) : Int) ≠ (0 : Int))))) rfl)).cons (hF47.get (t := 6) (v := (.int .i64 (chk n l))) rfl)).cons (hF47.get (t := 5) (v := (.int .i64 (chk n l))) rfl)).cons (hF47.get (t := 4) (v := (.bool false)) rfl)).cons (hF47.get (t := 3) (v := (.pointer (some ⟨g10, 0, none⟩))) rfl)).cons (hF47.get (t := 2) (v := (.pointer (some ⟨g2, 0, none⟩))) rfl)).cons (hF47.get (t := 1) (v := (.slice V v.length vc)) rfl)).cons (hF47.get (t := 0) (v := (.agg #[(.int .i64 n), (.slice A l.length c)])) rfl))
    clear hF47
    refine wp_ret ?_
    refine ret_then ?_
    refine ret2 hF48 rfl rfl rfl ?_
    exact ⟨by rw [hld_bad (by omega)], ((((Ext.refl w).trans hx5).trans hx13).trans hx29)⟩
  · skip
    refine wp_cond_false (c_false hF39 rfl (decide_eq_false hc40)) ?_
    refine wp_skip ?_
    refine hK22 _ _ ?_
    clear hK22
    refine wp_seq_k (fun K49 hK49 => ?_)
    refine wp_region_lit ?_
    refine wpl_op (i := 0) rfl (o_val (v := (.func (.func 26) #[] #[])) hF39 rfl rfl rfl rfl (rn_assign rfl) ?_)
    intro a50 hF51; clear hF39
    refine wpList_nil ?_
    refine hK49 _ _ ?_
    clear hK49
    refine wp_seq_k (fun K52 hK52 => ?_)
    refine wp_seq_k (fun K53 hK53 => ?_)
    have hvo := chk_v (by omega : chk n l = 0)
    have hn1 := vOk_n hvo
    refine wp_region_lit ?_
    have b54 : Blk w28 g10 25 [(.slice V v.length vc)] := (b12.ext hx29)
    refine wpl_op (i := 0) rfl (o_val (v := (.slice V v.length vc)) hF51 rfl rfl rfl rfl (rn_load (isAgg_no Try.underlying25 rfl) (hF51.get rfl) (b54.rule.1 0)) ?_)
    intro a55 hF56; clear hF51
    refine wpl_op (i := 1) rfl (o_val (v := (.int .i64 (v.length : Nat))) hF56 rfl rfl rfl rfl (rn_len_slice Try.underlying25 (hF56.get rfl)) ?_)
    intro a57 hF58; clear hF56
    refine wpl_op (i := 2) rfl (o_val (v := (.pointer (some ⟨g2, 0, none⟩))) hF58 rfl rfl rfl rfl (rn_field Try.underlying24 rfl (by kernel_rfl) (hF58.get rfl) rfl) ?_)
    intro a59 hF60; clear hF58
    have b61 : Blk w28 g2 24 [(.int .i64 n), (.slice A l.length c)] := (b24.ext hx29)
    refine wpl_op (i := 3) rfl (o_val (v := (.int .i64 n)) hF60 rfl rfl rfl rfl (rn_load (isAgg_no Try.underlying3 rfl) (hF60.get rfl) (b61.rule.1 0)) ?_)
    intro a62 hF63; clear hF60
    refine wpl_op (i := 4) rfl (o_val (v := (.bool (decide (((v.length : Nat) : Int) ≠ (n : Int))))) hF63 rfl rfl rfl rfl (rn_neq (hF63.get rfl) (hF63.get rfl)) ?_)
    intro a64 hF65; clear hF63
    refine wpl_op (i := 5) rfl (o_val (v := (.bool (decide (((v.length : Nat) : Int) ≠ (n : Int))))) hF65 rfl rfl rfl rfl (rn_move (hF65.get rfl)) ?_)
    intro a66 hF67; clear hF65
    by_cases hc68 : ((v.length : Nat) : Int) ≠ (n : Int)
    · skip
      refine wpl_op (i := 6) rfl (o_skip hF67 rfl (unwanted_guard rfl rfl rfl hF67 rfl (decide_eq_true hc68) rfl) rfl rfl ?_)
      intro a69 hF70; clear hF67
      refine wpl_op (i := 7) rfl (o_skip hF70 rfl (unwanted_guard rfl rfl rfl hF70 rfl (decide_eq_true hc68) rfl) rfl rfl ?_)
      intro a71 hF72; clear hF70
      refine wpl_op (i := 8) rfl (o_skip hF72 rfl (unwanted_guard rfl rfl rfl hF72 rfl (decide_eq_true hc68) rfl) rfl rfl ?_)
      intro a73 hF74; clear hF72
      refine wpl_op (i := 9) rfl (o_skip hF74 rfl (unwanted_guard rfl rfl rfl hF74 rfl (decide_eq_true hc68) rfl) rfl rfl ?_)
      intro a75 hF76; clear hF74
      refine wpl_op (i := 10) rfl (o_val (v := (.bool true)) hF76 rfl rfl rfl rfl (rn_pickT (c_true hF76 rfl (decide_eq_true hc68)) rfl) ?_)
      intro a77 hF78; clear hF76
      refine wpl_op (i := 11) rfl (o_val (v := (.bool true)) hF78 rfl rfl rfl rfl (rn_move (hF78.get rfl)) ?_)
      intro a79 hF80; clear hF78
      refine wpl_op (i := 12) rfl (o_skip hF80 rfl (unwanted_guard rfl rfl rfl hF80 rfl rfl rfl) rfl rfl ?_)
      intro a81 hF82; clear hF80
      refine wpl_op (i := 13) rfl (o_skip hF82 rfl (unwanted_guard rfl rfl rfl hF82 rfl rfl rfl) rfl rfl ?_)
      intro a83 hF84; clear hF82
      refine wpl_op (i := 14) rfl (o_skip hF84 rfl (unwanted_guard rfl rfl rfl hF84 rfl rfl rfl) rfl rfl ?_)
      intro a85 hF86; clear hF84
      refine wpl_op (i := 15) rfl (o_val (v := (.bool true)) hF86 rfl rfl rfl rfl (rn_pickT (c_true hF86 rfl rfl) rfl) ?_)
      intro a87 hF88; clear hF86
      refine wpList_nil ?_
      refine hK53 _ _ ?_
      clear hK53
      have hF89 := ((((((((((hF88.nil.cons (hF88.get (t := 29) (v := (.bool true)) rfl)).cons (hF88.get (t := 7) (v := (.func (.func 26) #[] #[])) rfl)).cons (hF88.get (t := 12) (v := (.bool (decide (((chk n l) : Int) ≠ (0 : Int))))) rfl)).cons (hF88.get (t := 6) (v := (.int .i64 (chk n l))) rfl)).cons (hF88.get (t := 5) (v := (.int .i64 0)) rfl)).cons (hF88.get (t := 4) (v := (.bool false)) rfl)).cons (hF88.get (t := 3) (v := (.pointer (some ⟨g10, 0, none⟩))) rfl)).cons (hF88.get (t := 2) (v := (.pointer (some ⟨g2, 0, none⟩))) rfl)).cons (hF88.get (t := 1) (v := (.slice V v.length vc)) rfl)).cons (hF88.get (t := 0) (v := (.agg #[(.int .i64 n), (.slice A l.length c)])) rfl))
      clear hF88
      refine wp_cond_true (c_true hF89 rfl rfl) ?_
      refine wp_seq_k (fun K90 hK90 => ?_)
      refine wp_region_lit ?_
      refine wpl_op (i := 0) rfl (o_val (v := (.bool false)) hF89 rfl rfl rfl rfl (rn_assign rfl) ?_)
      intro a91 hF92; clear hF89
      refine wpl_op (i := 1) rfl (o_val (v := (.int .i64 0)) hF92 rfl rfl rfl rfl (rn_assign rfl) ?_)
      intro a93 hF94; clear hF92
      refine wpList_nil ?_
      refine hK90 _ _ ?_
      clear hK90
      refine wp_ret ?_
      refine ret_then ?_
      refine ret2 hF94 rfl rfl rfl ?_
      exact ⟨by rw [hld_no1 (by omega), show chk n l = 0 by omega], ((((Ext.refl w).trans hx5).trans hx13).trans hx29)⟩
    · skip
      refine wpl_op (i := 6) rfl (o_val (v := (.slice V v.length vc)) hF67 rfl (wanted_guard rfl rfl rfl hF67 rfl (decide_eq_false hc68) rfl) rfl rfl (rn_load (isAgg_no Try.underlying25 rfl) (hF67.get rfl) (b54.rule.1 0)) ?_)
      intro a95 hF96; clear hF67
      have d100 := (((hv.ext hx5).ext hx13).ext hx29)
      obtain ⟨b97, o98, hA99, -⟩ := Fl.at d100 (by omega)
      refine wpl_op (i := 7) rfl (o_val (v := (.pointer (some ⟨b97, o98 + 0, none⟩))) hF96 rfl (wanted_guard rfl rfl rfl hF96 rfl (decide_eq_false hc68) rfl) rfl rfl (rn_index1 Try.underlying25 (by kernel_rfl : (Try.prog.info? 3).map (·.size) = some 1) ((hF96.get rfl).trans (by rw [hA99])) rfl (by omega : (0 : Int) ≤ 0) (by omega : (0 : Int) < ((v.length : Nat) : Int))) ?_)
      intro a101 hF102; clear hF96
      refine wpl_op (i := 8) rfl (o_val (v := (.int .i64 (v.getD 0 0))) hF102 rfl (wanted_guard rfl rfl rfl hF102 rfl (decide_eq_false hc68) rfl) rfl rfl (rn_load (isAgg_no Try.underlying3 rfl) (hF102.get rfl) (Fl.cellAt d100 hA99 (intVals_at (i := 0) (by omega)))) ?_)
      intro a103 hF104; clear hF102
      refine wpl_op (i := 9) rfl (o_val (v := (.bool (decide (((v.getD 0 0) : Int) ≠ (0 : Int))))) hF104 rfl (wanted_guard rfl rfl rfl hF104 rfl (decide_eq_false hc68) rfl) rfl rfl (rn_neq (hF104.get rfl) rfl) ?_)
      intro a105 hF106; clear hF104
      refine wpl_op (i := 10) rfl (o_val (v := (.bool (decide (((v.getD 0 0) : Int) ≠ (0 : Int))))) hF106 rfl rfl rfl rfl (rn_pickF (c_false hF106 rfl (decide_eq_false hc68)) (hF106.get rfl)) ?_)
      intro a107 hF108; clear hF106
      refine wpl_op (i := 11) rfl (o_val (v := (.bool (decide (((v.getD 0 0) : Int) ≠ (0 : Int))))) hF108 rfl rfl rfl rfl (rn_move (hF108.get rfl)) ?_)
      intro a109 hF110; clear hF108
      by_cases hc111 : ((v.getD 0 0) : Int) ≠ (0 : Int)
      · skip
        refine wpl_op (i := 12) rfl (o_skip hF110 rfl (unwanted_guard rfl rfl rfl hF110 rfl (decide_eq_true hc111) rfl) rfl rfl ?_)
        intro a112 hF113; clear hF110
        refine wpl_op (i := 13) rfl (o_skip hF113 rfl (unwanted_guard rfl rfl rfl hF113 rfl (decide_eq_true hc111) rfl) rfl rfl ?_)
        intro a114 hF115; clear hF113
        refine wpl_op (i := 14) rfl (o_skip hF115 rfl (unwanted_guard rfl rfl rfl hF115 rfl (decide_eq_true hc111) rfl) rfl rfl ?_)
        intro a116 hF117; clear hF115
        refine wpl_op (i := 15) rfl (o_val (v := (.bool true)) hF117 rfl rfl rfl rfl (rn_pickT (c_true hF117 rfl (decide_eq_true hc111)) rfl) ?_)
        intro a118 hF119; clear hF117
        refine wpList_nil ?_
        refine hK53 _ _ ?_
        clear hK53
        have hF120 := ((((((((((hF119.nil.cons (hF119.get (t := 29) (v := (.bool true)) rfl)).cons (hF119.get (t := 7) (v := (.func (.func 26) #[] #[])) rfl)).cons (hF119.get (t := 12) (v := (.bool (decide (((chk n l) : Int) ≠ (0 : Int))))) rfl)).cons (hF119.get (t := 6) (v := (.int .i64 (chk n l))) rfl)).cons (hF119.get (t := 5) (v := (.int .i64 0)) rfl)).cons (hF119.get (t := 4) (v := (.bool false)) rfl)).cons (hF119.get (t := 3) (v := (.pointer (some ⟨g10, 0, none⟩))) rfl)).cons (hF119.get (t := 2) (v := (.pointer (some ⟨g2, 0, none⟩))) rfl)).cons (hF119.get (t := 1) (v := (.slice V v.length vc)) rfl)).cons (hF119.get (t := 0) (v := (.agg #[(.int .i64 n), (.slice A l.length c)])) rfl))
        clear hF119
        refine wp_cond_true (c_true hF120 rfl rfl) ?_
        refine wp_seq_k (fun K121 hK121 => ?_)
        refine wp_region_lit ?_
        refine wpl_op (i := 0) rfl (o_val (v := (.bool false)) hF120 rfl rfl rfl rfl (rn_assign rfl) ?_)
        intro a122 hF123; clear hF120
        refine wpl_op (i := 1) rfl (o_val (v := (.int .i64 0)) hF123 rfl rfl rfl rfl (rn_assign rfl) ?_)
        intro a124 hF125; clear hF123
        refine wpList_nil ?_
        refine hK121 _ _ ?_
        clear hK121
        refine wp_ret ?_
        refine ret_then ?_
        refine ret2 hF125 rfl rfl rfl ?_
        exact ⟨by rw [hld_no1 (by omega), show chk n l = 0 by omega], ((((Ext.refl w).trans hx5).trans hx13).trans hx29)⟩
      · skip
        refine wpl_op (i := 12) rfl (o_val (v := (.slice V v.length vc)) hF110 rfl (wanted_guard rfl rfl rfl hF110 rfl (decide_eq_false hc111) rfl) rfl rfl (rn_load (isAgg_no Try.underlying25 rfl) (hF110.get rfl) (b54.rule.1 0)) ?_)
        intro a126 hF127; clear hF110
        refine wpl_op (i := 13) rfl (o_val (v := (.func (.func 26) #[] #[])) hF127 rfl (wanted_guard rfl rfl rfl hF127 rfl (decide_eq_false hc111) rfl) rfl rfl (rn_move (hF127.get rfl)) ?_)
        intro a128 hF129; clear hF127
        refine wpl_op (i := 14) rfl (o_call hF129 rfl (wanted_guard rfl rfl rfl hF129 rfl (decide_eq_false hc111) rfl) rfl rfl (rn_call (args2 (hF129.get rfl) (hF129.get rfl)) rfl (by kernel_rfl)) (has_int_at _ #[] v wide _ d100 (fun _ _ => by kernel_rfl) (fun u => #[u]) (fun u => by simp) (fun i W hi hx => wide_any _ _)) ?_)
        rintro _ w130 ⟨rfl, hx131⟩
        refine ⟨_, rfl, ?_⟩; intro a132 hF133; clear hF129; have z134 := hx131.size
        refine wpl_op (i := 15) rfl (o_val (v := (.bool (v.any wide))) hF133 rfl rfl rfl rfl (rn_pickF (c_false hF133 rfl (decide_eq_false hc111)) (hF133.get rfl)) ?_)
        intro a135 hF136; clear hF133
        refine wpList_nil ?_
        refine hK53 _ _ ?_
        clear hK53
        have hF137 := ((((((((((hF136.nil.cons (hF136.get (t := 29) (v := (.bool (v.any wide))) rfl)).cons (hF136.get (t := 7) (v := (.func (.func 26) #[] #[])) rfl)).cons (hF136.get (t := 12) (v := (.bool (decide (((chk n l) : Int) ≠ (0 : Int))))) rfl)).cons (hF136.get (t := 6) (v := (.int .i64 (chk n l))) rfl)).cons (hF136.get (t := 5) (v := (.int .i64 0)) rfl)).cons (hF136.get (t := 4) (v := (.bool false)) rfl)).cons (hF136.get (t := 3) (v := (.pointer (some ⟨g10, 0, none⟩))) rfl)).cons (hF136.get (t := 2) (v := (.pointer (some ⟨g2, 0, none⟩))) rfl)).cons (hF136.get (t := 1) (v := (.slice V v.length vc)) rfl)).cons (hF136.get (t := 0) (v := (.agg #[(.int .i64 n), (.slice A l.length c)])) rfl))
        clear hF136
        rcases Bool.eq_false_or_eq_true (v.any wide) with hc138 | hc138
        · skip
          refine wp_cond_true (c_true hF137 rfl hc138) ?_
          refine wp_seq_k (fun K139 hK139 => ?_)
          refine wp_region_lit ?_
          refine wpl_op (i := 0) rfl (o_val (v := (.bool false)) hF137 rfl rfl rfl rfl (rn_assign rfl) ?_)
          intro a140 hF141; clear hF137
          refine wpl_op (i := 1) rfl (o_val (v := (.int .i64 0)) hF141 rfl rfl rfl rfl (rn_assign rfl) ?_)
          intro a142 hF143; clear hF141
          refine wpList_nil ?_
          refine hK139 _ _ ?_
          clear hK139
          refine wp_ret ?_
          refine ret_then ?_
          refine ret2 hF143 rfl rfl rfl ?_
          exact ⟨by rw [hld_no2 hc138, show chk n l = 0 by omega], (((((Ext.refl w).trans hx5).trans hx13).trans hx29).trans hx131)⟩
        · skip
          refine wp_cond_false (c_false hF137 rfl hc138) ?_
          refine wp_skip ?_
          refine hK52 _ _ ?_
          clear hK52
          refine wp_seq_k (fun K144 hK144 => ?_)
          refine wp_region_lit ?_
          refine wpl_op (i := 0) rfl (o_val (v := (.func (.func 28) #[] #[(.pointer (some ⟨g10, 0, none⟩))])) hF137 rfl rfl rfl rfl (rn_makeFunc (args0 ) (args1 (hF137.get rfl))) ?_)
          intro a145 hF146; clear hF137
          refine wpl_op (i := 1) rfl (o_val (v := (.func (.func 28) #[] #[(.pointer (some ⟨g10, 0, none⟩))])) hF146 rfl rfl rfl rfl (rn_assign (hF146.get rfl)) ?_)
          intro a147 hF148; clear hF146
          refine wpList_nil ?_
          refine hK144 _ _ ?_
          clear hK144
          refine wp_seq_k (fun K149 hK149 => ?_)
          refine wp_region_lit ?_
          refine wpl_op (i := 0) rfl (o_val (v := (.pointer (some ⟨g2, 1, none⟩))) hF148 rfl rfl rfl rfl (rn_field Try.underlying24 rfl (by kernel_rfl) (hF148.get rfl) rfl) ?_)
          intro a150 hF151; clear hF148
          have b152 : Blk w130 g2 24 [(.int .i64 n), (.slice A l.length c)] := (b61.ext hx131)
          refine wpl_op (i := 1) rfl (o_val (v := (.slice A l.length c)) hF151 rfl rfl rfl rfl (rn_load (isAgg_no Try.underlying22 rfl) (hF151.get rfl) (b152.rule.1 1)) ?_)
          intro a153 hF154; clear hF151
          refine wpl_op (i := 2) rfl (o_val (v := (.func (.func 28) #[] #[(.pointer (some ⟨g10, 0, none⟩))])) hF154 rfl rfl rfl rfl (rn_move (hF154.get rfl)) ?_)
          intro a155 hF156; clear hF154
          have d157 := ((((hc.ext hx5).ext hx13).ext hx29).ext hx131)
          have b158 : Blk w130 g10 25 [(.slice V v.length vc)] := (b54.ext hx131)
          have hf159 := b158
          have d160 := ((((hv.ext hx5).ext hx13).ext hx29).ext hx131)
          have hf161 := d160
          have hvo := chk_v (by omega : chk n l = 0)
          have hwd : v.any wide = false := hc138
          refine wpl_op (i := 3) rfl (o_call hF156 rfl rfl rfl rfl (rn_call (args2 (hF156.get rfl) (hF156.get rfl)) rfl (by kernel_rfl)) (has_ed_at _ #[.pointer (some ⟨g10, 0, none⟩)] l (brk v) _ d157 (fun _ _ => by kernel_rfl) (fun u => #[u, .pointer (some ⟨g10, 0, none⟩)]) (fun u => by simp) (fun i W hi hx => by have hi0 := vOk_at hvo hi; exact brk_any _ _ _ g10 V vc v W (hf159.ext hx) (hf161.ext hx) hwd (by omega) (by omega) (by omega))) ?_)
          rintro _ w162 ⟨rfl, hx163⟩
          refine ⟨_, rfl, ?_⟩; intro a164 hF165; clear hF156; have z166 := hx163.size
          refine wpl_op (i := 4) rfl (o_val (v := (.bool (!(l.any (brk v))))) hF165 rfl rfl rfl rfl (rn_not' (hF165.get rfl) rfl) ?_)
          intro a167 hF168; clear hF165
          refine wpl_op (i := 5) rfl (o_val (v := (.bool (!(l.any (brk v))))) hF168 rfl rfl rfl rfl (rn_assign (hF168.get rfl)) ?_)
          intro a169 hF170; clear hF168
          refine wpl_op (i := 6) rfl (o_val (v := (.int .i64 0)) hF170 rfl rfl rfl rfl (rn_assign rfl) ?_)
          intro a171 hF172; clear hF170
          refine wpList_nil ?_
          refine hK149 _ _ ?_
          clear hK149
          have hF173 := (((((((((((hF172.nil.cons (hF172.get (t := 8) (v := (.func (.func 28) #[] #[(.pointer (some ⟨g10, 0, none⟩))])) rfl)).cons (hF172.get (t := 29) (v := (.bool (v.any wide))) rfl)).cons (hF172.get (t := 7) (v := (.func (.func 26) #[] #[])) rfl)).cons (hF172.get (t := 12) (v := (.bool (decide (((chk n l) : Int) ≠ (0 : Int))))) rfl)).cons (hF172.get (t := 6) (v := (.int .i64 (chk n l))) rfl)).cons (hF172.get (t := 5) (v := (.int .i64 0)) rfl)).cons (hF172.get (t := 4) (v := (.bool (!(l.any (brk v))))) rfl)).cons (hF172.get (t := 3) (v := (.pointer (some ⟨g10, 0, none⟩))) rfl)).cons (hF172.get (t := 2) (v := (.pointer (some ⟨g2, 0, none⟩))) rfl)).cons (hF172.get (t := 1) (v := (.slice V v.length vc)) rfl)).cons (hF172.get (t := 0) (v := (.agg #[(.int .i64 n), (.slice A l.length c)])) rfl))
          clear hF172
          refine wp_ret ?_
          refine ret2 hF173 rfl rfl rfl ?_
          exact ⟨by rw [hld_last hvo (by omega) hwd, show chk n l = 0 by omega], ((((((Ext.refl w).trans hx5).trans hx13).trans hx29).trans hx131).trans hx163)⟩

theorem bholds_at {u z : Value} {m k : Nat} (n : Int) (l : List E3) (v : List Int) (w : World) (hf : Fl S w 3 u m (edVals l)) (hfv : Fl S' w 1 z k (intVals v)) :
    Calls Try.prog 11 #[.agg #[.int .i64 n, u], z] w (fun e w' => e = .returned (.tuple #[.bool (hld n l v), .int .i64 (chk n l)]) ∧ Ext w w') := by
  have hm := Fl.edlen hf
  have hk := Fl.ilen hfv
  subst hm hk
  obtain ⟨A, c, rfl, _⟩ := hf.form
  obtain ⟨V, vc, rfl, _⟩ := hfv.form
  exact bholds_any A c n l V vc v w hf hfv

set_option maxRecDepth 100000 in
set_option maxHeartbeats 1000000 in
theorem rholds_any (A : Option Addr) (c : Nat) (n : Int) (l : List E3) (V : Option Addr) (vc : Nat) (v : List Int) (w : World) (hf : Fl S w 3 (.slice A l.length c) l.length (edVals l)) (hfv : Fl S' w 1 (.slice V v.length vc) v.length (intVals v)) :
    Calls Try.prog 12 #[.agg #[.int .i64 n, .slice A l.length c], .slice V v.length vc] w (fun e w' => e = .returned (.tuple #[.bool (hld n l v), .int .i64 (chk n l)]) ∧ Ext w w') := by
  have hc : Fl (Clip S w) w 3 (.slice A l.length c) l.length (edVals l) := hf.clip
  have hcc := (Fl.cel hc).2.1
  have hv : Fl (Clip S' w) w 1 (.slice V v.length vc) v.length (intVals v) := hfv.clip
  have hcv := (Fl.cel hv).2.1
  refine calls_enter (l := [(.agg #[(.int .i64 n), (.slice A l.length c)]), (.slice V v.length vc)]) Try.func12 rfl rfl rfl (fun aA hF => ?_)
  refine wp_seq_k (fun K1 hK1 => ?_)
  refine wp_region_lit ?_
  refine wpl_op (i := 0) rfl (o_new (fun g => (.pointer (some ⟨g, 0, none⟩))) [(.int .i64 n), (.slice A l.length c)] 24 hF rfl rfl rfl rfl (rn_box (hF.get rfl) (by kernel_rfl)) ?_)
  intro g2 w3 a8 hF9 z6 z7 b4 hx5; clear hF
  refine wpl_op (i := 1) rfl (o_val (v := (.bool false)) hF9 rfl rfl rfl rfl (rn_assign rfl) ?_)
  intro a10 hF11; clear hF9
  refine wpl_op (i := 2) rfl (o_val (v := (.int .i64 0)) hF11 rfl rfl rfl rfl (rn_assign rfl) ?_)
  intro a12 hF13; clear hF11
  refine wpList_nil ?_
  refine hK1 _ _ ?_
  clear hK1
  refine wp_seq_k (fun K14 hK14 => ?_)
  refine wp_region_lit ?_
  refine wpl_op (i := 0) rfl (o_val (v := (.agg #[(.int .i64 n), (.slice A l.length c)])) hF13 rfl rfl rfl rfl (rn_loadBlk (hF13.get rfl) b4 Try.underlying24 rfl (by kernel_rfl : (Try.prog.info? 24).map (·.size) = some 2)) ?_)
  intro a15 hF16; clear hF13
  have d17 := (hc.ext hx5)
  refine wpl_op (i := 1) rfl (o_call hF16 rfl rfl rfl rfl (rn_call (args1 (hF16.get rfl)) rfl (by kernel_rfl)) (rcheck_at (v := (.slice A l.length c)) n l _ d17) ?_)
  rintro _ w18 ⟨rfl, hx19⟩
  refine ⟨_, rfl, ?_⟩; intro a20 hF21; clear hF16; have z22 := hx19.size
  refine wpl_op (i := 2) rfl (o_val (v := (.int .i64 (chk n l))) hF21 rfl rfl rfl rfl (rn_assign (hF21.get rfl)) ?_)
  intro a23 hF24; clear hF21
  refine wpList_nil ?_
  refine hK14 _ _ ?_
  clear hK14
  refine wp_seq_k (fun K25 hK25 => ?_)
  refine wp_seq_k (fun K26 hK26 => ?_)
  refine wp_region_lit ?_
  refine wpl_op (i := 0) rfl (o_val (v := (.int .i64 (chk n l))) hF24 rfl rfl rfl rfl (rn_move (hF24.get rfl)) ?_)
  intro a27 hF28; clear hF24
  refine wpl_op (i := 1) rfl (o_val (v := (.bool (decide (((chk n l) : Int) ≠ (0 : Int))))) hF28 rfl rfl rfl rfl (rn_neq (hF28.get rfl) rfl) ?_)
  intro a29 hF30; clear hF28
  refine wpList_nil ?_
  refine hK26 _ _ ?_
  clear hK26
  by_cases hc31 : ((chk n l) : Int) ≠ (0 : Int)
  · skip
    refine wp_cond_true (c_true hF30 rfl (decide_eq_true hc31)) ?_
    refine wp_seq_k (fun K32 hK32 => ?_)
    refine wp_region_lit ?_
    refine wpl_op (i := 0) rfl (o_val (v := (.int .i64 (chk n l))) hF30 rfl rfl rfl rfl (rn_move (hF30.get rfl)) ?_)
    intro a33 hF34; clear hF30
    refine wpl_op (i := 1) rfl (o_val (v := (.bool false)) hF34 rfl rfl rfl rfl (rn_assign rfl) ?_)
    intro a35 hF36; clear hF34
    refine wpl_op (i := 2) rfl (o_val (v := (.int .i64 (chk n l))) hF36 rfl rfl rfl rfl (rn_assign (hF36.get rfl)) ?_)
    intro a37 hF38; clear hF36
    refine wpList_nil ?_
    refine hK32 _ _ ?_
    clear hK32
    have hF39 := (((((((hF38.nil.cons (hF38.get (t := 13) (v := (.bool (decide (((chk n l) : Int) ≠ (0 : Int))))) rfl)).cons (hF38.get (t := 6) (v := (.int .i64 (chk n l))) rfl)).cons (hF38.get (t := 5) (v := (.int .i64 (chk n l))) rfl)).cons (hF38.get (t := 4) (v := (.bool false)) rfl)).cons (hF38.get (t := 2) (v := (.pointer (some ⟨g2, 0, none⟩))) rfl)).cons (hF38.get (t := 1) (v := (.slice V v.length vc)) rfl)).cons (hF38.get (t := 0) (v := (.agg #[(.int .i64 n), (.slice A l.length c)])) rfl))
    clear hF38
    refine wp_ret ?_
    refine ret_then ?_
    refine ret2 hF39 rfl rfl rfl ?_
    exact ⟨by rw [hld_bad (by omega)], (((Ext.refl w).trans hx5).trans hx19)⟩
  · skip
    refine wp_cond_false (c_false hF30 rfl (decide_eq_false hc31)) ?_
    refine wp_skip ?_
    refine hK25 _ _ ?_
    clear hK25
    refine wp_seq_k (fun K40 hK40 => ?_)
    refine wp_seq_k (fun K41 hK41 => ?_)
    have hvo := chk_v (by omega : chk n l = 0)
    have hn1 := vOk_n hvo
    refine wp_region_lit ?_
    refine wpl_op (i := 0) rfl (o_val (v := (.slice V v.length vc)) hF30 rfl rfl rfl rfl (rn_move (hF30.get rfl)) ?_)
    intro a42 hF43; clear hF30
    refine wpl_op (i := 1) rfl (o_val (v := (.int .i64 (v.length : Nat))) hF43 rfl rfl rfl rfl (rn_len_slice Try.underlying25 (hF43.get rfl)) ?_)
    intro a44 hF45; clear hF43
    refine wpl_op (i := 2) rfl (o_val (v := (.pointer (some ⟨g2, 0, none⟩))) hF45 rfl rfl rfl rfl (rn_field Try.underlying24 rfl (by kernel_rfl) (hF45.get rfl) rfl) ?_)
    intro a46 hF47; clear hF45
    have b48 : Blk w18 g2 24 [(.int .i64 n), (.slice A l.length c)] := (b4.ext hx19)
    refine wpl_op (i := 3) rfl (o_val (v := (.int .i64 n)) hF47 rfl rfl rfl rfl (rn_load (isAgg_no Try.underlying3 rfl) (hF47.get rfl) (b48.rule.1 0)) ?_)
    intro a49 hF50; clear hF47
    refine wpl_op (i := 4) rfl (o_val (v := (.bool (decide (((v.length : Nat) : Int) ≠ (n : Int))))) hF50 rfl rfl rfl rfl (rn_neq (hF50.get rfl) (hF50.get rfl)) ?_)
    intro a51 hF52; clear hF50
    refine wpl_op (i := 5) rfl (o_val (v := (.bool (decide (((v.length : Nat) : Int) ≠ (n : Int))))) hF52 rfl rfl rfl rfl (rn_move (hF52.get rfl)) ?_)
    intro a53 hF54; clear hF52
    by_cases hc55 : ((v.length : Nat) : Int) ≠ (n : Int)
    · skip
      refine wpl_op (i := 6) rfl (o_skip hF54 rfl (unwanted_guard rfl rfl rfl hF54 rfl (decide_eq_true hc55) rfl) rfl rfl ?_)
      intro a56 hF57; clear hF54
      refine wpl_op (i := 7) rfl (o_skip hF57 rfl (unwanted_guard rfl rfl rfl hF57 rfl (decide_eq_true hc55) rfl) rfl rfl ?_)
      intro a58 hF59; clear hF57
      refine wpl_op (i := 8) rfl (o_skip hF59 rfl (unwanted_guard rfl rfl rfl hF59 rfl (decide_eq_true hc55) rfl) rfl rfl ?_)
      intro a60 hF61; clear hF59
      refine wpl_op (i := 9) rfl (o_skip hF61 rfl (unwanted_guard rfl rfl rfl hF61 rfl (decide_eq_true hc55) rfl) rfl rfl ?_)
      intro a62 hF63; clear hF61
      refine wpl_op (i := 10) rfl (o_val (v := (.bool true)) hF63 rfl rfl rfl rfl (rn_pickT (c_true hF63 rfl (decide_eq_true hc55)) rfl) ?_)
      intro a64 hF65; clear hF63
      refine wpList_nil ?_
      refine hK41 _ _ ?_
      clear hK41
      have hF66 := ((((((((hF65.nil.cons (hF65.get (t := 25) (v := (.bool true)) rfl)).cons (hF65.get (t := 13) (v := (.bool (decide (((chk n l) : Int) ≠ (0 : Int))))) rfl)).cons (hF65.get (t := 6) (v := (.int .i64 (chk n l))) rfl)).cons (hF65.get (t := 5) (v := (.int .i64 0)) rfl)).cons (hF65.get (t := 4) (v := (.bool false)) rfl)).cons (hF65.get (t := 2) (v := (.pointer (some ⟨g2, 0, none⟩))) rfl)).cons (hF65.get (t := 1) (v := (.slice V v.length vc)) rfl)).cons (hF65.get (t := 0) (v := (.agg #[(.int .i64 n), (.slice A l.length c)])) rfl))
      clear hF65
      refine wp_cond_true (c_true hF66 rfl rfl) ?_
      refine wp_seq_k (fun K67 hK67 => ?_)
      refine wp_region_lit ?_
      refine wpl_op (i := 0) rfl (o_val (v := (.bool false)) hF66 rfl rfl rfl rfl (rn_assign rfl) ?_)
      intro a68 hF69; clear hF66
      refine wpl_op (i := 1) rfl (o_val (v := (.int .i64 0)) hF69 rfl rfl rfl rfl (rn_assign rfl) ?_)
      intro a70 hF71; clear hF69
      refine wpList_nil ?_
      refine hK67 _ _ ?_
      clear hK67
      refine wp_ret ?_
      refine ret_then ?_
      refine ret2 hF71 rfl rfl rfl ?_
      exact ⟨by rw [hld_no1 (by omega), show chk n l = 0 by omega], (((Ext.refl w).trans hx5).trans hx19)⟩
    · skip
      refine wpl_op (i := 6) rfl (o_val (v := (.slice V v.length vc)) hF54 rfl (wanted_guard rfl rfl rfl hF54 rfl (decide_eq_false hc55) rfl) rfl rfl (rn_move (hF54.get rfl)) ?_)
      intro a72 hF73; clear hF54
      have d77 := ((hv.ext hx5).ext hx19)
      obtain ⟨b74, o75, hA76, -⟩ := Fl.at d77 (by omega)
      refine wpl_op (i := 7) rfl (o_val (v := (.pointer (some ⟨b74, o75 + 0, none⟩))) hF73 rfl (wanted_guard rfl rfl rfl hF73 rfl (decide_eq_false hc55) rfl) rfl rfl (rn_index1 Try.underlying25 (by kernel_rfl : (Try.prog.info? 3).map (·.size) = some 1) ((hF73.get rfl).trans (by rw [hA76])) rfl (by omega : (0 : Int) ≤ 0) (by omega : (0 : Int) < ((v.length : Nat) : Int))) ?_)
      intro a78 hF79; clear hF73
      refine wpl_op (i := 8) rfl (o_val (v := (.int .i64 (v.getD 0 0))) hF79 rfl (wanted_guard rfl rfl rfl hF79 rfl (decide_eq_false hc55) rfl) rfl rfl (rn_load (isAgg_no Try.underlying3 rfl) (hF79.get rfl) (Fl.cellAt d77 hA76 (intVals_at (i := 0) (by omega)))) ?_)
      intro a80 hF81; clear hF79
      refine wpl_op (i := 9) rfl (o_val (v := (.bool (decide (((v.getD 0 0) : Int) ≠ (0 : Int))))) hF81 rfl (wanted_guard rfl rfl rfl hF81 rfl (decide_eq_false hc55) rfl) rfl rfl (rn_neq (hF81.get rfl) rfl) ?_)
      intro a82 hF83; clear hF81
      refine wpl_op (i := 10) rfl (o_val (v := (.bool (decide (((v.getD 0 0) : Int) ≠ (0 : Int))))) hF83 rfl rfl rfl rfl (rn_pickF (c_false hF83 rfl (decide_eq_false hc55)) (hF83.get rfl)) ?_)
      intro a84 hF85; clear hF83
      refine wpList_nil ?_
      refine hK41 _ _ ?_
      clear hK41
      have hF86 := ((((((((hF85.nil.cons (hF85.get (t := 25) (v := (.bool (decide (((v.getD 0 0) : Int) ≠ (0 : Int))))) rfl)).cons (hF85.get (t := 13) (v := (.bool (decide (((chk n l) : Int) ≠ (0 : Int))))) rfl)).cons (hF85.get (t := 6) (v := (.int .i64 (chk n l))) rfl)).cons (hF85.get (t := 5) (v := (.int .i64 0)) rfl)).cons (hF85.get (t := 4) (v := (.bool false)) rfl)).cons (hF85.get (t := 2) (v := (.pointer (some ⟨g2, 0, none⟩))) rfl)).cons (hF85.get (t := 1) (v := (.slice V v.length vc)) rfl)).cons (hF85.get (t := 0) (v := (.agg #[(.int .i64 n), (.slice A l.length c)])) rfl))
      clear hF85
      by_cases hc87 : ((v.getD 0 0) : Int) ≠ (0 : Int)
      · skip
        refine wp_cond_true (c_true hF86 rfl (decide_eq_true hc87)) ?_
        refine wp_seq_k (fun K88 hK88 => ?_)
        refine wp_region_lit ?_
        refine wpl_op (i := 0) rfl (o_val (v := (.bool false)) hF86 rfl rfl rfl rfl (rn_assign rfl) ?_)
        intro a89 hF90; clear hF86
        refine wpl_op (i := 1) rfl (o_val (v := (.int .i64 0)) hF90 rfl rfl rfl rfl (rn_assign rfl) ?_)
        intro a91 hF92; clear hF90
        refine wpList_nil ?_
        refine hK88 _ _ ?_
        clear hK88
        refine wp_ret ?_
        refine ret_then ?_
        refine ret2 hF92 rfl rfl rfl ?_
        exact ⟨by rw [hld_no1 (by omega), show chk n l = 0 by omega], (((Ext.refl w).trans hx5).trans hx19)⟩
      · skip
        refine wp_cond_false (c_false hF86 rfl (decide_eq_false hc87)) ?_
        refine wp_skip ?_
        refine hK40 _ _ ?_
        clear hK40
        refine wp_seq_k (fun K93 hK93 => ?_)
        refine wp_seq_k (fun K94 hK94 => ?_)
        refine wp_region_lit ?_
        refine wpl_op (i := 0) rfl (o_val (v := (.int .i64 0)) hF86 rfl rfl rfl rfl (rn_assign rfl) ?_)
        intro a95 hF96; clear hF86
        refine wpList_nil ?_
        refine hK94 _ _ ?_
        clear hK94
        refine wp_block ?_
        refine wp_loop (fun a' W => ∃ (k : Nat), Sl 70 [(0, (.agg #[(.int .i64 n), (.slice A l.length c)])), (1, (.slice V v.length vc)), (2, (.pointer (some ⟨g2, 0, none⟩))), (4, (.bool false)), (5, (.int .i64 0)), (6, (.int .i64 (chk n l))), (13, (.bool (decide (((chk n l) : Int) ≠ (0 : Int))))), (25, (.bool (decide (((v.getD 0 0) : Int) ≠ (0 : Int))))), (7, (.int .i64 (k : Nat)))] a' ∧ k ≤ v.length ∧ (∀ j, j < k → wide (v.getD j 0) = false) ∧ Ext w W ∧ Blk W g2 24 [(.int .i64 n), (.slice A l.length c)] ∧ w18.heap.size ≤ W.heap.size) (fun a' _ => v.length - (intOf (a'.eval (.tmp 7))).toNat) ⟨0, (((((((((hF96.nil.cons (q_get hF96 (t := 7) rfl (by first | rfl | (congr 1; omega) | (congr 1; done)))).cons (q_get hF96 (t := 25) rfl rfl)).cons (q_get hF96 (t := 13) rfl rfl)).cons (q_get hF96 (t := 6) rfl rfl)).cons (q_get hF96 (t := 5) rfl rfl)).cons (q_get hF96 (t := 4) rfl rfl)).cons (q_get hF96 (t := 2) rfl rfl)).cons (q_get hF96 (t := 1) rfl rfl)).cons (q_get hF96 (t := 0) rfl rfl)), (by omega), (fun j hj => absurd hj (by omega)), (((Ext.refl w).trans hx5).trans hx19), b48, (Nat.le_refl _)⟩ ?_
        clear hF96
        rintro a97 w98 ⟨k, hF99, hp101, hp102, hx100, b103, hf104⟩
        have hL105 := hF99
        have z106 := hx100.size
        have z107 := b103.lt
        refine wp_seq_k (fun K108 hK108 => ?_)
        refine wp_seq_k (fun K109 hK109 => ?_)
        refine wp_region_lit ?_
        refine wpl_op (i := 0) rfl (o_val (v := (.int .i64 (k : Nat))) hF99 rfl rfl rfl rfl (rn_move (hF99.get rfl)) ?_)
        intro a110 hF111; clear hF99
        refine wpl_op (i := 1) rfl (o_val (v := (.slice V v.length vc)) hF111 rfl rfl rfl rfl (rn_move (hF111.get rfl)) ?_)
        intro a112 hF113; clear hF111
        refine wpl_op (i := 2) rfl (o_val (v := (.int .i64 (v.length : Nat))) hF113 rfl rfl rfl rfl (rn_len_slice Try.underlying25 (hF113.get rfl)) ?_)
        intro a114 hF115; clear hF113
        refine wpl_op (i := 3) rfl (o_val (v := (.bool (decide (((k : Nat) : Int) < ((v.length : Nat) : Int))))) hF115 rfl rfl rfl rfl (rn_lss (hF115.get rfl) (hF115.get rfl)) ?_)
        intro a116 hF117; clear hF115
        refine wpList_nil ?_
        refine hK109 _ _ ?_
        clear hK109
        by_cases hc118 : ((k : Nat) : Int) < ((v.length : Nat) : Int)
        · skip
          refine wp_cond_true (c_true hF117 rfl (decide_eq_true hc118)) ?_
          refine wp_skip ?_
          refine hK108 _ _ ?_
          clear hK108
          refine wp_seq_k (fun K119 hK119 => ?_)
          refine wp_block ?_
          refine wp_seq_k (fun K120 hK120 => ?_)
          refine wp_region_lit ?_
          refine wpl_op (i := 0) rfl (o_val (v := (.slice V v.length vc)) hF117 rfl rfl rfl rfl (rn_move (hF117.get rfl)) ?_)
          intro a121 hF122; clear hF117
          refine wpl_op (i := 1) rfl (o_val (v := (.int .i64 (k : Nat))) hF122 rfl rfl rfl rfl (rn_move (hF122.get rfl)) ?_)
          intro a123 hF124; clear hF122
          refine wpl_op (i := 2) rfl (o_val (v := (.pointer (some ⟨b74, o75 + k, none⟩))) hF124 rfl rfl rfl rfl (rn_index1 Try.underlying25 (by kernel_rfl : (Try.prog.info? 3).map (·.size) = some 1) ((hF124.get rfl).trans (by rw [hA76])) (hF124.get rfl) (by omega : (0 : Int) ≤ (k : Nat)) (by omega : ((k : Nat) : Int) < ((v.length : Nat) : Int))) ?_)
          intro a125 hF126; clear hF124
          have d127 := (hv.ext hx100)
          refine wpl_op (i := 3) rfl (o_val (v := (.int .i64 (v.getD k 0))) hF126 rfl rfl rfl rfl (rn_load (isAgg_no Try.underlying3 rfl) (hF126.get rfl) (Fl.cellAt d127 hA76 (intVals_at (i := k) (by omega)))) ?_)
          intro a128 hF129; clear hF126
          refine wpl_op (i := 4) rfl (o_val (v := (.bool (decide (((v.getD k 0) : Int) < (-1152921504606846976 : Int))))) hF129 rfl rfl rfl rfl (rn_lss (hF129.get rfl) rfl) ?_)
          intro a130 hF131; clear hF129
          refine wpl_op (i := 5) rfl (o_val (v := (.bool (decide (((v.getD k 0) : Int) < (-1152921504606846976 : Int))))) hF131 rfl rfl rfl rfl (rn_move (hF131.get rfl)) ?_)
          intro a132 hF133; clear hF131
          by_cases hc134 : ((v.getD k 0) : Int) < (-1152921504606846976 : Int)
          · skip
            refine wpl_op (i := 6) rfl (o_skip hF133 rfl (unwanted_guard rfl rfl rfl hF133 rfl (decide_eq_true hc134) rfl) rfl rfl ?_)
            intro a135 hF136; clear hF133
            refine wpl_op (i := 7) rfl (o_skip hF136 rfl (unwanted_guard rfl rfl rfl hF136 rfl (decide_eq_true hc134) rfl) rfl rfl ?_)
            intro a137 hF138; clear hF136
            refine wpl_op (i := 8) rfl (o_skip hF138 rfl (unwanted_guard rfl rfl rfl hF138 rfl (decide_eq_true hc134) rfl) rfl rfl ?_)
            intro a139 hF140; clear hF138
            refine wpl_op (i := 9) rfl (o_skip hF140 rfl (unwanted_guard rfl rfl rfl hF140 rfl (decide_eq_true hc134) rfl) rfl rfl ?_)
            intro a141 hF142; clear hF140
            refine wpl_op (i := 10) rfl (o_skip hF142 rfl (unwanted_guard rfl rfl rfl hF142 rfl (decide_eq_true hc134) rfl) rfl rfl ?_)
            intro a143 hF144; clear hF142
            refine wpl_op (i := 11) rfl (o_val (v := (.bool true)) hF144 rfl rfl rfl rfl (rn_pickT (c_true hF144 rfl (decide_eq_true hc134)) rfl) ?_)
            intro a145 hF146; clear hF144
            refine wpList_nil ?_
            refine hK120 _ _ ?_
            clear hK120
            have hF147 := (((((((((((hF146.nil.cons (hF146.get (t := 43) (v := (.bool true)) rfl)).cons (hF146.get (t := 29) (v := (.bool (decide (((k : Nat) : Int) < ((v.length : Nat) : Int))))) rfl)).cons (hF146.get (t := 7) (v := (.int .i64 (k : Nat))) rfl)).cons (hF146.get (t := 25) (v := (.bool (decide (((v.getD 0 0) : Int) ≠ (0 : Int))))) rfl)).cons (hF146.get (t := 13) (v := (.bool (decide (((chk n l) : Int) ≠ (0 : Int))))) rfl)).cons (hF146.get (t := 6) (v := (.int .i64 (chk n l))) rfl)).cons (hF146.get (t := 5) (v := (.int .i64 0)) rfl)).cons (hF146.get (t := 4) (v := (.bool false)) rfl)).cons (hF146.get (t := 2) (v := (.pointer (some ⟨g2, 0, none⟩))) rfl)).cons (hF146.get (t := 1) (v := (.slice V v.length vc)) rfl)).cons (hF146.get (t := 0) (v := (.agg #[(.int .i64 n), (.slice A l.length c)])) rfl))
            clear hF146
            refine wp_cond_true (c_true hF147 rfl rfl) ?_
            refine wp_seq_k (fun K148 hK148 => ?_)
            refine wp_region_lit ?_
            refine wpl_op (i := 0) rfl (o_val (v := (.bool false)) hF147 rfl rfl rfl rfl (rn_assign rfl) ?_)
            intro a149 hF150; clear hF147
            refine wpl_op (i := 1) rfl (o_val (v := (.int .i64 0)) hF150 rfl rfl rfl rfl (rn_assign rfl) ?_)
            intro a151 hF152; clear hF150
            refine wpList_nil ?_
            refine hK148 _ _ ?_
            clear hK148
            refine wp_ret ?_
            refine ret_block ?_
            refine ret_then ?_
            refine ret_then ?_
            refine ret_block ?_
            refine ret_then ?_
            refine ret2 hF152 rfl rfl rfl ?_
            exact ⟨by rw [hld_no2 (any_of (d := (0 : Int)) (p := wide) (k := k) (by omega) (wide_yes (by omega))), show chk n l = 0 by omega], ((Ext.refl w).trans hx100)⟩
          · skip
            refine wpl_op (i := 6) rfl (o_val (v := (.slice V v.length vc)) hF133 rfl (wanted_guard rfl rfl rfl hF133 rfl (decide_eq_false hc134) rfl) rfl rfl (rn_move (hF133.get rfl)) ?_)
            intro a153 hF154; clear hF133
            refine wpl_op (i := 7) rfl (o_val (v := (.int .i64 (k : Nat))) hF154 rfl (wanted_guard rfl rfl rfl hF154 rfl (decide_eq_false hc134) rfl) rfl rfl (rn_move (hF154.get rfl)) ?_)
            intro a155 hF156; clear hF154
            refine wpl_op (i := 8) rfl (o_val (v := (.pointer (some ⟨b74, o75 + k, none⟩))) hF156 rfl (wanted_guard rfl rfl rfl hF156 rfl (decide_eq_false hc134) rfl) rfl rfl (rn_index1 Try.underlying25 (by kernel_rfl : (Try.prog.info? 3).map (·.size) = some 1) ((hF156.get rfl).trans (by rw [hA76])) (hF156.get rfl) (by omega : (0 : Int) ≤ (k : Nat)) (by omega : ((k : Nat) : Int) < ((v.length : Nat) : Int))) ?_)
            intro a157 hF158; clear hF156
            refine wpl_op (i := 9) rfl (o_val (v := (.int .i64 (v.getD k 0))) hF158 rfl (wanted_guard rfl rfl rfl hF158 rfl (decide_eq_false hc134) rfl) rfl rfl (rn_load (isAgg_no Try.underlying3 rfl) (hF158.get rfl) (Fl.cellAt d127 hA76 (intVals_at (i := k) (by omega)))) ?_)
            intro a159 hF160; clear hF158
            refine wpl_op (i := 10) rfl (o_val (v := (.bool (decide ((1152921504606846976 : Int) < ((v.getD k 0) : Int))))) hF160 rfl (wanted_guard rfl rfl rfl hF160 rfl (decide_eq_false hc134) rfl) rfl rfl (rn_gtr (hF160.get rfl) rfl) ?_)
            intro a161 hF162; clear hF160
            refine wpl_op (i := 11) rfl (o_val (v := (.bool (decide ((1152921504606846976 : Int) < ((v.getD k 0) : Int))))) hF162 rfl rfl rfl rfl (rn_pickF (c_false hF162 rfl (decide_eq_false hc134)) (hF162.get rfl)) ?_)
            intro a163 hF164; clear hF162
            refine wpList_nil ?_
            refine hK120 _ _ ?_
            clear hK120
            have hF165 := (((((((((((hF164.nil.cons (hF164.get (t := 43) (v := (.bool (decide ((1152921504606846976 : Int) < ((v.getD k 0) : Int))))) rfl)).cons (hF164.get (t := 29) (v := (.bool (decide (((k : Nat) : Int) < ((v.length : Nat) : Int))))) rfl)).cons (hF164.get (t := 7) (v := (.int .i64 (k : Nat))) rfl)).cons (hF164.get (t := 25) (v := (.bool (decide (((v.getD 0 0) : Int) ≠ (0 : Int))))) rfl)).cons (hF164.get (t := 13) (v := (.bool (decide (((chk n l) : Int) ≠ (0 : Int))))) rfl)).cons (hF164.get (t := 6) (v := (.int .i64 (chk n l))) rfl)).cons (hF164.get (t := 5) (v := (.int .i64 0)) rfl)).cons (hF164.get (t := 4) (v := (.bool false)) rfl)).cons (hF164.get (t := 2) (v := (.pointer (some ⟨g2, 0, none⟩))) rfl)).cons (hF164.get (t := 1) (v := (.slice V v.length vc)) rfl)).cons (hF164.get (t := 0) (v := (.agg #[(.int .i64 n), (.slice A l.length c)])) rfl))
            clear hF164
            by_cases hc166 : (1152921504606846976 : Int) < ((v.getD k 0) : Int)
            · skip
              refine wp_cond_true (c_true hF165 rfl (decide_eq_true hc166)) ?_
              refine wp_seq_k (fun K167 hK167 => ?_)
              refine wp_region_lit ?_
              refine wpl_op (i := 0) rfl (o_val (v := (.bool false)) hF165 rfl rfl rfl rfl (rn_assign rfl) ?_)
              intro a168 hF169; clear hF165
              refine wpl_op (i := 1) rfl (o_val (v := (.int .i64 0)) hF169 rfl rfl rfl rfl (rn_assign rfl) ?_)
              intro a170 hF171; clear hF169
              refine wpList_nil ?_
              refine hK167 _ _ ?_
              clear hK167
              refine wp_ret ?_
              refine ret_block ?_
              refine ret_then ?_
              refine ret_then ?_
              refine ret_block ?_
              refine ret_then ?_
              refine ret2 hF171 rfl rfl rfl ?_
              exact ⟨by rw [hld_no2 (any_of (d := (0 : Int)) (p := wide) (k := k) (by omega) (wide_yes (by omega))), show chk n l = 0 by omega], ((Ext.refl w).trans hx100)⟩
            · skip
              refine wp_cond_false (c_false hF165 rfl (decide_eq_false hc166)) ?_
              refine wp_skip ?_
              refine hK119 _ _ ?_
              clear hK119
              refine wp_region_lit ?_
              refine wpl_op (i := 0) rfl (o_val (v := (.int .i64 (k : Nat))) hF165 rfl rfl rfl rfl (rn_move (hF165.get rfl)) ?_)
              intro a172 hF173; clear hF165
              refine wpl_op (i := 1) rfl (o_val (v := (.int .i64 (k + 1 : Nat))) hF173 rfl rfl rfl rfl (rn_addN (a := k) (b := 1) (hF173.get rfl) rfl (by omega)) ?_)
              intro a174 hF175; clear hF173
              refine wpl_op (i := 2) rfl (o_val (v := (.int .i64 (k + 1 : Nat))) hF175 rfl rfl rfl rfl (rn_assign (hF175.get rfl)) ?_)
              intro a176 hF177; clear hF175
              refine wpList_nil ?_
              refine ⟨⟨(k + 1), (((((((((hF177.nil.cons (q_get hF177 (t := 7) rfl (by first | rfl | (congr 1; omega) | (congr 1; done)))).cons (q_get hF177 (t := 25) rfl rfl)).cons (q_get hF177 (t := 13) rfl rfl)).cons (q_get hF177 (t := 6) rfl rfl)).cons (q_get hF177 (t := 5) rfl rfl)).cons (q_get hF177 (t := 4) rfl rfl)).cons (q_get hF177 (t := 2) rfl rfl)).cons (q_get hF177 (t := 1) rfl rfl)).cons (q_get hF177 (t := 0) rfl rfl)), (by omega), (upto_step hp102 (wide_in (by omega) (by omega))), ((Ext.refl w).trans hx100), b103, (by omega)⟩, ?_⟩
              rw [hF177.get (t := 7) rfl, hL105.get (t := 7) rfl]; simp [intOf] <;> omega
        · skip
          refine wp_cond_false (c_false hF117 rfl (decide_eq_false hc118)) ?_
          refine wp_exit ?_
          refine exit_then ?_
          refine exit_then ?_
          refine exit_here ?_
          refine hK93 _ _ ?_
          clear hK93
          refine wp_seq_k (fun K178 hK178 => ?_)
          refine wp_seq_k (fun K179 hK179 => ?_)
          refine wp_region_lit ?_
          refine wpl_op (i := 0) rfl (o_val (v := (.int .i64 0)) hF117 rfl rfl rfl rfl (rn_assign rfl) ?_)
          intro a180 hF181; clear hF117
          refine wpList_nil ?_
          refine hK179 _ _ ?_
          clear hK179
          refine wp_block ?_
          have hwd : v.any wide = false := not_any (d := 0) (fun j hj => hp102 j (by omega))
          refine wp_loop (fun a' W => ∃ (k2 : Nat), Sl 70 [(0, (.agg #[(.int .i64 n), (.slice A l.length c)])), (1, (.slice V v.length vc)), (2, (.pointer (some ⟨g2, 0, none⟩))), (4, (.bool false)), (5, (.int .i64 0)), (6, (.int .i64 (chk n l))), (13, (.bool (decide (((chk n l) : Int) ≠ (0 : Int))))), (25, (.bool (decide (((v.getD 0 0) : Int) ≠ (0 : Int))))), (7, (.int .i64 (k : Nat))), (29, (.bool (decide (((k : Nat) : Int) < ((v.length : Nat) : Int))))), (8, (.int .i64 (k2 : Nat)))] a' ∧ k2 ≤ l.length ∧ (∀ j, j < k2 → brk v (l.getD j default) = false) ∧ Ext w W ∧ Blk W g2 24 [(.int .i64 n), (.slice A l.length c)] ∧ w98.heap.size ≤ W.heap.size) (fun a' _ => l.length - (intOf (a'.eval (.tmp 8))).toNat) ⟨0, (((((((((((hF181.nil.cons (q_get hF181 (t := 8) rfl (by first | rfl | (congr 1; omega) | (congr 1; done)))).cons (q_get hF181 (t := 29) rfl rfl)).cons (q_get hF181 (t := 7) rfl rfl)).cons (q_get hF181 (t := 25) rfl rfl)).cons (q_get hF181 (t := 13) rfl rfl)).cons (q_get hF181 (t := 6) rfl rfl)).cons (q_get hF181 (t := 5) rfl rfl)).cons (q_get hF181 (t := 4) rfl rfl)).cons (q_get hF181 (t := 2) rfl rfl)).cons (q_get hF181 (t := 1) rfl rfl)).cons (q_get hF181 (t := 0) rfl rfl)), (by omega), (fun j hj => absurd hj (by omega)), ((Ext.refl w).trans hx100), b103, (Nat.le_refl _)⟩ ?_
          clear hF181
          rintro a182 w183 ⟨k2, hF184, hp186, hp187, hx185, b188, hf189⟩
          have hL190 := hF184
          have z191 := hx185.size
          have z192 := b188.lt
          refine wp_seq_k (fun K193 hK193 => ?_)
          refine wp_seq_k (fun K194 hK194 => ?_)
          refine wp_region_lit ?_
          refine wpl_op (i := 0) rfl (o_val (v := (.int .i64 (k2 : Nat))) hF184 rfl rfl rfl rfl (rn_move (hF184.get rfl)) ?_)
          intro a195 hF196; clear hF184
          refine wpl_op (i := 1) rfl (o_val (v := (.pointer (some ⟨g2, 1, none⟩))) hF196 rfl rfl rfl rfl (rn_field Try.underlying24 rfl (by kernel_rfl) (hF196.get rfl) rfl) ?_)
          intro a197 hF198; clear hF196
          refine wpl_op (i := 2) rfl (o_val (v := (.slice A l.length c)) hF198 rfl rfl rfl rfl (rn_load (isAgg_no Try.underlying22 rfl) (hF198.get rfl) (b188.rule.1 1)) ?_)
          intro a199 hF200; clear hF198
          refine wpl_op (i := 3) rfl (o_val (v := (.int .i64 (l.length : Nat))) hF200 rfl rfl rfl rfl (rn_len_slice Try.underlying22 (hF200.get rfl)) ?_)
          intro a201 hF202; clear hF200
          refine wpl_op (i := 4) rfl (o_val (v := (.bool (decide (((k2 : Nat) : Int) < ((l.length : Nat) : Int))))) hF202 rfl rfl rfl rfl (rn_lss (hF202.get rfl) (hF202.get rfl)) ?_)
          intro a203 hF204; clear hF202
          refine wpList_nil ?_
          refine hK194 _ _ ?_
          clear hK194
          have hF205 := ((((((((((((hF204.nil.cons (hF204.get (t := 48) (v := (.bool (decide (((k2 : Nat) : Int) < ((l.length : Nat) : Int))))) rfl)).cons (hF204.get (t := 8) (v := (.int .i64 (k2 : Nat))) rfl)).cons (hF204.get (t := 29) (v := (.bool (decide (((k : Nat) : Int) < ((v.length : Nat) : Int))))) rfl)).cons (hF204.get (t := 7) (v := (.int .i64 (k : Nat))) rfl)).cons (hF204.get (t := 25) (v := (.bool (decide (((v.getD 0 0) : Int) ≠ (0 : Int))))) rfl)).cons (hF204.get (t := 13) (v := (.bool (decide (((chk n l) : Int) ≠ (0 : Int))))) rfl)).cons (hF204.get (t := 6) (v := (.int .i64 (chk n l))) rfl)).cons (hF204.get (t := 5) (v := (.int .i64 0)) rfl)).cons (hF204.get (t := 4) (v := (.bool false)) rfl)).cons (hF204.get (t := 2) (v := (.pointer (some ⟨g2, 0, none⟩))) rfl)).cons (hF204.get (t := 1) (v := (.slice V v.length vc)) rfl)).cons (hF204.get (t := 0) (v := (.agg #[(.int .i64 n), (.slice A l.length c)])) rfl))
          clear hF204
          by_cases hc206 : ((k2 : Nat) : Int) < ((l.length : Nat) : Int)
          · skip
            refine wp_cond_true (c_true hF205 rfl (decide_eq_true hc206)) ?_
            refine wp_skip ?_
            refine hK193 _ _ ?_
            clear hK193
            refine wp_seq_k (fun K207 hK207 => ?_)
            refine wp_block ?_
            refine wp_seq_k (fun K208 hK208 => ?_)
            refine wp_region_lit ?_
            refine wpl_op (i := 0) rfl (o_val (v := (.pointer (some ⟨g2, 1, none⟩))) hF205 rfl rfl rfl rfl (rn_field Try.underlying24 rfl (by kernel_rfl) (hF205.get rfl) rfl) ?_)
            intro a209 hF210; clear hF205
            refine wpl_op (i := 1) rfl (o_val (v := (.slice A l.length c)) hF210 rfl rfl rfl rfl (rn_load (isAgg_no Try.underlying22 rfl) (hF210.get rfl) (b188.rule.1 1)) ?_)
            intro a211 hF212; clear hF210
            refine wpl_op (i := 2) rfl (o_val (v := (.int .i64 (k2 : Nat))) hF212 rfl rfl rfl rfl (rn_move (hF212.get rfl)) ?_)
            intro a213 hF214; clear hF212
            have d218 := (hc.ext hx185)
            obtain ⟨b215, o216, hA217, -⟩ := Fl.at d218 (by omega)
            refine wpl_op (i := 3) rfl (o_val (v := (.pointer (some ⟨b215, o216 + k2 * 3, none⟩))) hF214 rfl rfl rfl rfl (rn_indexE Try.underlying22 (by kernel_rfl : (Try.prog.info? 41).map (·.size) = some 3) ((hF214.get rfl).trans (by rw [hA217])) (hF214.get rfl) (by omega : (0 : Int) ≤ (k2 : Nat)) (by omega : ((k2 : Nat) : Int) < ((l.length : Nat) : Int)) (by omega)) ?_)
            intro a219 hF220; clear hF214
            refine wpl_op (i := 4) rfl (o_val (v := (.agg #[(.int .i64 ((l.getD k2 default).a)), (.int .i64 ((l.getD k2 default).b)), (.int .i64 ((l.getD k2 default).w))])) hF220 rfl rfl rfl rfl (rn_loadN (cs := [(.int .i64 ((l.getD k2 default).a)), (.int .i64 ((l.getD k2 default).b)), (.int .i64 ((l.getD k2 default).w))]) (hF220.get rfl) Try.underlying41 rfl (by kernel_rfl : (Try.prog.info? 41).map (·.size) = some 3) (Fl.recAt edCells_k d218 hA217 (by omega))) ?_)
            intro a221 hF222; clear hF220
            refine wpl_op (i := 5) rfl (o_new (fun g => (.pointer (some ⟨g, 0, none⟩))) [(.int .i64 0), (.int .i64 0), (.int .i64 0)] 41 hF222 rfl rfl rfl rfl (by kernel_rfl) ?_)
            intro g223 w224 a229 hF230 z227 z228 b225 hx226; clear hF222
            refine wpl_op (i := 6) rfl (o_store (cells := [(.int .i64 ((l.getD k2 default).a)), (.int .i64 ((l.getD k2 default).b)), (.int .i64 ((l.getD k2 default).w))]) hF230 rfl rfl rfl rfl (hF230.get rfl) (hF230.get rfl) b225 (by kernel_rfl : (Try.prog.info? 41).map (·.size) = some 3) rfl (by simp [Value.oneCell']) ?_)
            intro w231 b232 hg233; have z234 := hg233.size
            refine wpList_nil ?_
            refine hK208 _ _ ?_
            clear hK208
            have hF235 := (((((((((((((hF230.nil.cons (hF230.get (t := 9) (v := (.pointer (some ⟨g223, 0, none⟩))) rfl)).cons (hF230.get (t := 48) (v := (.bool (decide (((k2 : Nat) : Int) < ((l.length : Nat) : Int))))) rfl)).cons (hF230.get (t := 8) (v := (.int .i64 (k2 : Nat))) rfl)).cons (hF230.get (t := 29) (v := (.bool (decide (((k : Nat) : Int) < ((v.length : Nat) : Int))))) rfl)).cons (hF230.get (t := 7) (v := (.int .i64 (k : Nat))) rfl)).cons (hF230.get (t := 25) (v := (.bool (decide (((v.getD 0 0) : Int) ≠ (0 : Int))))) rfl)).cons (hF230.get (t := 13) (v := (.bool (decide (((chk n l) : Int) ≠ (0 : Int))))) rfl)).cons (hF230.get (t := 6) (v := (.int .i64 (chk n l))) rfl)).cons (hF230.get (t := 5) (v := (.int .i64 0)) rfl)).cons (hF230.get (t := 4) (v := (.bool false)) rfl)).cons (hF230.get (t := 2) (v := (.pointer (some ⟨g2, 0, none⟩))) rfl)).cons (hF230.get (t := 1) (v := (.slice V v.length vc)) rfl)).cons (hF230.get (t := 0) (v := (.agg #[(.int .i64 n), (.slice A l.length c)])) rfl))
            clear hF230
            refine wp_seq_k (fun K236 hK236 => ?_)
            have hvo := chk_v (by omega : chk n l = 0)
            have hi0 := vOk_at hvo (show k2 < l.length by omega)
            have hw1 := wide_at hwd (j := (l.getD k2 default).a.toNat) (by omega)
            have hx238 : ∃ W, w231.drew = W ∧ Ext w231 W := ⟨_, rfl, (Ext.refl _).drew⟩
            obtain ⟨w237, e239, hx238⟩ := hx238
            have z240 := hx238.size
            refine any_start (fun W => Ext w237 W ∧ Blk W g223 41 [(.int .i64 ((l.getD k2 default).a)), (.int .i64 ((l.getD k2 default).b)), (.int .i64 ((l.getD k2 default).w))]) (fun i => false) 14 #[false, false, false, false, false, false, false, false, false, false, false, false, false, false] rfl rfl rfl ?_
            rw [e239]; clear e239
            refine any_pure (i := 0) (v := (.slice V v.length vc)) hF235 (by decide +kernel) (by decide +kernel) rfl rfl rfl rfl (fun _ _ _ _ h => h) rfl (fun W => (rn_move (hF235.get rfl))) ?_
            intro a241 hF242; clear hF235
            refine any_pure (i := 1) (v := (.pointer (some ⟨g223, 1, none⟩))) hF242 (by decide +kernel) (by decide +kernel) rfl rfl rfl rfl (fun _ _ _ _ h => h) rfl (fun W => (rn_field Try.underlying41 rfl (by kernel_rfl) (hF242.get rfl) rfl)) ?_
            intro a243 hF244; clear hF242
            have b246 : Blk w237 g223 41 [(.int .i64 ((l.getD k2 default).a)), (.int .i64 ((l.getD k2 default).b)), (.int .i64 ((l.getD k2 default).w))] := (b232.ext hx238)
            have hS245 : Ext w237 w237 ∧ Blk w237 g223 41 [(.int .i64 ((l.getD k2 default).a)), (.int .i64 ((l.getD k2 default).b)), (.int .i64 ((l.getD k2 default).w))] := ⟨(Ext.refl w237), b246⟩
            refine any_val (i := 2) (v := (.int .i64 ((l.getD k2 default).b))) hF244 (by decide +kernel) (by decide +kernel) rfl rfl rfl rfl (fun _ _ _ _ h => h) rfl hS245 (fun W hW => (rn_load (isAgg_no Try.underlying3 rfl) (hF244.get rfl) (hW.2.rule.1 1))) ?_
            intro a247 hF248; clear hF244
            refine any_pure (i := 3) (v := (.pointer (some ⟨b74, o75 + ((l.getD k2 default).b : Int).toNat, none⟩))) hF248 (by decide +kernel) (by decide +kernel) rfl rfl rfl rfl (fun _ _ _ _ h => h) rfl (fun W => (rn_index1 Try.underlying25 (by kernel_rfl : (Try.prog.info? 3).map (·.size) = some 1) ((hF248.get rfl).trans (by rw [hA76])) (hF248.get rfl) (by omega : (0 : Int) ≤ (l.getD k2 default).b) (by omega : ((l.getD k2 default).b : Int) < ((v.length : Nat) : Int)))) ?_
            intro a249 hF250; clear hF248
            have d251 := (hv.pres (((((Pres.refl w).ext hx185).ext hx226).grownN hg233 (fun h => by simp only [Clip] at h; omega)).ext hx238))
            refine any_val (i := 4) (v := (.int .i64 (v.getD (((l.getD k2 default).b : Int).toNat) 0))) hF250 (by decide +kernel) (by decide +kernel) rfl rfl rfl rfl (fun _ _ _ _ h => h) rfl hS245 (fun W hW => (rn_load (isAgg_no Try.underlying3 rfl) (hF250.get rfl) (Fl.cellAt (d251.ext hW.1) hA76 (intVals_at (i := ((l.getD k2 default).b : Int).toNat) (by omega))))) ?_
            intro a252 hF253; clear hF250
            refine any_pure (i := 5) (v := (.slice V v.length vc)) hF253 (by decide +kernel) (by decide +kernel) rfl rfl rfl rfl (fun _ _ _ _ h => h) rfl (fun W => (rn_move (hF253.get rfl))) ?_
            intro a254 hF255; clear hF253
            refine any_pure (i := 6) (v := (.pointer (some ⟨g223, 0, none⟩))) hF255 (by decide +kernel) (by decide +kernel) rfl rfl rfl rfl (fun _ _ _ _ h => h) rfl (fun W => (rn_field Try.underlying41 rfl (by kernel_rfl) (hF255.get rfl) rfl)) ?_
            intro a256 hF257; clear hF255
            refine any_val (i := 7) (v := (.int .i64 ((l.getD k2 default).a))) hF257 (by decide +kernel) (by decide +kernel) rfl rfl rfl rfl (fun _ _ _ _ h => h) rfl hS245 (fun W hW => (rn_load (isAgg_no Try.underlying3 rfl) (hF257.get rfl) (hW.2.rule.1 0))) ?_
            intro a258 hF259; clear hF257
            refine any_pure (i := 8) (v := (.pointer (some ⟨b74, o75 + ((l.getD k2 default).a : Int).toNat, none⟩))) hF259 (by decide +kernel) (by decide +kernel) rfl rfl rfl rfl (fun _ _ _ _ h => h) rfl (fun W => (rn_index1 Try.underlying25 (by kernel_rfl : (Try.prog.info? 3).map (·.size) = some 1) ((hF259.get rfl).trans (by rw [hA76])) (hF259.get rfl) (by omega : (0 : Int) ≤ (l.getD k2 default).a) (by omega : ((l.getD k2 default).a : Int) < ((v.length : Nat) : Int)))) ?_
            intro a260 hF261; clear hF259
            refine any_val (i := 9) (v := (.int .i64 (v.getD (((l.getD k2 default).a : Int).toNat) 0))) hF261 (by decide +kernel) (by decide +kernel) rfl rfl rfl rfl (fun _ _ _ _ h => h) rfl hS245 (fun W hW => (rn_load (isAgg_no Try.underlying3 rfl) (hF261.get rfl) (Fl.cellAt (d251.ext hW.1) hA76 (intVals_at (i := ((l.getD k2 default).a : Int).toNat) (by omega))))) ?_
            intro a262 hF263; clear hF261
            refine any_pure (i := 10) (v := (.pointer (some ⟨g223, 2, none⟩))) hF263 (by decide +kernel) (by decide +kernel) rfl rfl rfl rfl (fun _ _ _ _ h => h) rfl (fun W => (rn_field Try.underlying41 rfl (by kernel_rfl) (hF263.get rfl) rfl)) ?_
            intro a264 hF265; clear hF263
            refine any_val (i := 11) (v := (.int .i64 ((l.getD k2 default).w))) hF265 (by decide +kernel) (by decide +kernel) rfl rfl rfl rfl (fun _ _ _ _ h => h) rfl hS245 (fun W hW => (rn_load (isAgg_no Try.underlying3 rfl) (hF265.get rfl) (hW.2.rule.1 2))) ?_
            intro a266 hF267; clear hF265
            refine any_pure (i := 12) (v := (.int .i64 ((v.getD (((l.getD k2 default).a : Int).toNat) 0) + ((l.getD k2 default).w)))) hF267 (by decide +kernel) (by decide +kernel) rfl rfl rfl rfl (fun _ _ _ _ h => h) rfl (fun W => (rn_add (hF267.get rfl) (hF267.get rfl) (by omega) (by omega))) ?_
            intro a268 hF269; clear hF267
            refine any_pure (i := 13) (v := (.bool (decide (((v.getD (((l.getD k2 default).a : Int).toNat) 0) + ((l.getD k2 default).w) : Int) < ((v.getD (((l.getD k2 default).b : Int).toNat) 0) : Int))))) hF269 (by decide +kernel) (by decide +kernel) rfl rfl rfl rfl (fun _ _ _ _ h => h) rfl (fun W => (rn_gtr (hF269.get rfl) (hF269.get rfl))) ?_
            intro a270 hF271; clear hF269
            refine any_nil (by decide +kernel) ?_
            refine hK236 _ _ ?_
            clear hK236
            have hF272 := ((((((((((((((hF271.nil.cons (hF271.get (t := 69) (v := (.bool (decide (((v.getD (((l.getD k2 default).a : Int).toNat) 0) + ((l.getD k2 default).w) : Int) < ((v.getD (((l.getD k2 default).b : Int).toNat) 0) : Int))))) rfl)).cons (hF271.get (t := 9) (v := (.pointer (some ⟨g223, 0, none⟩))) rfl)).cons (hF271.get (t := 48) (v := (.bool (decide (((k2 : Nat) : Int) < ((l.length : Nat) : Int))))) rfl)).cons (hF271.get (t := 8) (v := (.int .i64 (k2 : Nat))) rfl)).cons (hF271.get (t := 29) (v := (.bool (decide (((k : Nat) : Int) < ((v.length : Nat) : Int))))) rfl)).cons (hF271.get (t := 7) (v := (.int .i64 (k : Nat))) rfl)).cons (hF271.get (t := 25) (v := (.bool (decide (((v.getD 0 0) : Int) ≠ (0 : Int))))) rfl)).cons (hF271.get (t := 13) (v := (.bool (decide (((chk n l) : Int) ≠ (0 : Int))))) rfl)).cons (hF271.get (t := 6) (v := (.int .i64 (chk n l))) rfl)).cons (hF271.get (t := 5) (v := (.int .i64 0)) rfl)).cons (hF271.get (t := 4) (v := (.bool false)) rfl)).cons (hF271.get (t := 2) (v := (.pointer (some ⟨g2, 0, none⟩))) rfl)).cons (hF271.get (t := 1) (v := (.slice V v.length vc)) rfl)).cons (hF271.get (t := 0) (v := (.agg #[(.int .i64 n), (.slice A l.length c)])) rfl))
            clear hF271
            by_cases hc273 : ((v.getD (((l.getD k2 default).a : Int).toNat) 0) + ((l.getD k2 default).w) : Int) < ((v.getD (((l.getD k2 default).b : Int).toNat) 0) : Int)
            · skip
              refine wp_cond_true (c_true hF272 rfl (decide_eq_true hc273)) ?_
              refine wp_seq_k (fun K274 hK274 => ?_)
              refine wp_region_lit ?_
              refine wpl_op (i := 0) rfl (o_val (v := (.bool false)) hF272 rfl rfl rfl rfl (rn_assign rfl) ?_)
              intro a275 hF276; clear hF272
              refine wpl_op (i := 1) rfl (o_val (v := (.int .i64 0)) hF276 rfl rfl rfl rfl (rn_assign rfl) ?_)
              intro a277 hF278; clear hF276
              refine wpList_nil ?_
              refine hK274 _ _ ?_
              clear hK274
              refine wp_ret ?_
              refine ret_block ?_
              refine ret_then ?_
              refine ret_then ?_
              refine ret_block ?_
              refine ret_then ?_
              refine ret2 hF278 rfl rfl rfl ?_
              exact ⟨by rw [hld_last (chk_v (by omega)) (by omega) hwd, any_of (p := brk v) (d := default) (k := k2) (by omega) (decide_eq_true hc273), show chk n l = 0 by omega]; rfl, (((((Ext.refl w).trans hx185).trans hx226).grownN hg233 (by omega)).trans hx238)⟩
            · skip
              refine wp_cond_false (c_false hF272 rfl (decide_eq_false hc273)) ?_
              refine wp_skip ?_
              refine hK207 _ _ ?_
              clear hK207
              refine wp_region_lit ?_
              refine wpl_op (i := 0) rfl (o_val (v := (.int .i64 (k2 : Nat))) hF272 rfl rfl rfl rfl (rn_move (hF272.get rfl)) ?_)
              intro a279 hF280; clear hF272
              refine wpl_op (i := 1) rfl (o_val (v := (.int .i64 (k2 + 1 : Nat))) hF280 rfl rfl rfl rfl (rn_addN (a := k2) (b := 1) (hF280.get rfl) rfl (by omega)) ?_)
              intro a281 hF282; clear hF280
              refine wpl_op (i := 2) rfl (o_val (v := (.int .i64 (k2 + 1 : Nat))) hF282 rfl rfl rfl rfl (rn_assign (hF282.get rfl)) ?_)
              intro a283 hF284; clear hF282
              refine wpList_nil ?_
              have b285 : Blk w237 g2 24 [(.int .i64 n), (.slice A l.length c)] := (((b188.ext hx226).grownN hg233 (by omega)).ext hx238)
              refine ⟨⟨(k2 + 1), (((((((((((hF284.nil.cons (q_get hF284 (t := 8) rfl (by first | rfl | (congr 1; omega) | (congr 1; done)))).cons (q_get hF284 (t := 29) rfl rfl)).cons (q_get hF284 (t := 7) rfl rfl)).cons (q_get hF284 (t := 25) rfl rfl)).cons (q_get hF284 (t := 13) rfl rfl)).cons (q_get hF284 (t := 6) rfl rfl)).cons (q_get hF284 (t := 5) rfl rfl)).cons (q_get hF284 (t := 4) rfl rfl)).cons (q_get hF284 (t := 2) rfl rfl)).cons (q_get hF284 (t := 1) rfl rfl)).cons (q_get hF284 (t := 0) rfl rfl)), (by omega), (upto_step hp187 (decide_eq_false hc273)), (((((Ext.refl w).trans hx185).trans hx226).grownN hg233 (by omega)).trans hx238), b285, (by omega)⟩, ?_⟩
              rw [hF284.get (t := 8) rfl, hL190.get (t := 8) rfl]; simp [intOf] <;> omega
          · skip
            refine wp_cond_false (c_false hF205 rfl (decide_eq_false hc206)) ?_
            refine wp_exit ?_
            refine exit_then ?_
            refine exit_then ?_
            refine exit_here ?_
            refine hK178 _ _ ?_
            clear hK178
            refine wp_seq_k (fun K286 hK286 => ?_)
            refine wp_region_lit ?_
            refine wpl_op (i := 0) rfl (o_val (v := (.bool true)) hF205 rfl rfl rfl rfl (rn_assign rfl) ?_)
            intro a287 hF288; clear hF205
            refine wpl_op (i := 1) rfl (o_val (v := (.int .i64 0)) hF288 rfl rfl rfl rfl (rn_assign rfl) ?_)
            intro a289 hF290; clear hF288
            refine wpList_nil ?_
            refine hK286 _ _ ?_
            clear hK286
            refine wp_ret ?_
            refine ret2 hF290 rfl rfl rfl ?_
            exact ⟨by rw [hld_last (chk_v (by omega)) (by omega) hwd, not_any (p := brk v) (d := default) (fun j hj => hp187 j (by omega)), show chk n l = 0 by omega]; rfl, ((Ext.refl w).trans hx185)⟩

theorem rholds_at {u z : Value} {m k : Nat} (n : Int) (l : List E3) (v : List Int) (w : World) (hf : Fl S w 3 u m (edVals l)) (hfv : Fl S' w 1 z k (intVals v)) :
    Calls Try.prog 12 #[.agg #[.int .i64 n, u], z] w (fun e w' => e = .returned (.tuple #[.bool (hld n l v), .int .i64 (chk n l)]) ∧ Ext w w') := by
  have hm := Fl.edlen hf
  have hk := Fl.ilen hfv
  subst hm hk
  obtain ⟨A, c, rfl, _⟩ := hf.form
  obtain ⟨V, vc, rfl, _⟩ := hfv.form
  exact rholds_any A c n l V vc v w hf hfv

end Go.Proofs.Ytjmdodgmoehfkaa
