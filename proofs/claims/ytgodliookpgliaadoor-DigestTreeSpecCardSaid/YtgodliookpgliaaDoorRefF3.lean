/- Contracts of the reference's Climb, Same. -/
import Derived.Test.YtgodliookpgliaaDoorProg
import Derived.Test.YtgodliookpgliaaDoorRefE3
import Derived.KernelRfl
namespace Go.Proofs.YtgodliookpgliaaDoor
open Go.RowKit

variable {S S' : Nat → Prop}

theorem climb_first' {d : List UInt8} {a n m : Nat} {p : List (List UInt8)} (h : 2 ≤ n) (h2 : a < half n) (hp : p.length = (dirs a n).length) (hm : m = p.length) : climbL nodeD leafD d a n p = nodeD (climbL nodeD leafD d a (half n) (p.take (m - 1))) (p.getD (m - 1) []) ∧ (p.take (m - 1)).length = (dirs a (half n)).length ∧ 0 < m := by
  subst hm
  have h3 : (dirs a n).length = (dirs a (half n)).length + 1 := by rw [dirs_first h h2]; rfl
  have h4 : p = p.take (p.length - 1) ++ [p.getD (p.length - 1) []] := by
    rw [List.getD_eq_getElem?_getD, List.getElem?_eq_getElem (by omega), Option.getD_some]
    have := List.take_append_drop (p.length - 1) p
    rw [List.drop_eq_getElem_cons (by omega), List.drop_eq_nil_of_le (by omega)] at this
    exact this.symm
  refine ⟨?_, by rw [List.length_take]; omega, by omega⟩
  conv => lhs; rw [h4]
  exact climb_first nodeD leafD h h2 (by rw [← h4]; exact hp)
theorem climb_second' {d : List UInt8} {a n m : Nat} {p : List (List UInt8)} (h : 2 ≤ n) (h2 : ¬ a < half n) (hp : p.length = (dirs a n).length) (hm : m = p.length) : climbL nodeD leafD d a n p = nodeD (p.getD (m - 1) []) (climbL nodeD leafD d (a - half n) (n - half n) (p.take (m - 1))) ∧ (p.take (m - 1)).length = (dirs (a - half n) (n - half n)).length ∧ 0 < m := by
  subst hm
  have h3 : (dirs a n).length = (dirs (a - half n) (n - half n)).length + 1 := by rw [dirs_second h h2]; rfl
  have h4 : p = p.take (p.length - 1) ++ [p.getD (p.length - 1) []] := by
    rw [List.getD_eq_getElem?_getD, List.getElem?_eq_getElem (by omega), Option.getD_some]
    have := List.take_append_drop (p.length - 1) p
    rw [List.drop_eq_getElem_cons (by omega), List.drop_eq_nil_of_le (by omega)] at this
    exact this.symm
  refine ⟨?_, by rw [List.length_take]; omega, by omega⟩
  conv => lhs; rw [h4]
  exact climb_second nodeD leafD h h2 (by rw [← h4]; exact hp)

set_option maxRecDepth 100000 in
set_option maxHeartbeats 1000000 in
theorem rlength_ind : ∀ (N : Nat) (a n : Nat) (w : World) (_ : a < n) (_ : n ≤ 4611686018427387904) (_ : n < N), Calls Tryd.prog 35 #[.int .i64 (a : Nat), .int .i64 (n : Nat)] w (fun e w' => e = .returned (.int .i64 ((dirs a n).length : Nat)) ∧ Ext w w') := by
  intro N
  induction N with
  | zero => intro a n w _ _ _; omega
  | succ N ih0 =>
  intro a n w ha hbig hN
  have ih : ∀ (a' n' : Nat) (w' : World) (_ : a' < n') (_ : n' ≤ 4611686018427387904) (_ : n' < n), Calls Tryd.prog 35 #[.int .i64 (a' : Nat), .int .i64 (n' : Nat)] w' (fun e w'' => e = .returned (.int .i64 ((dirs a' n').length : Nat)) ∧ Ext w' w'') := fun a' n' w' h1 h2 h3 => ih0 a' n' w' h1 h2 (by omega)
  clear ih0
  refine calls_enter (l := [(.int .i64 (a : Nat)), (.int .i64 (n : Nat))]) Tryd.func35 rfl rfl rfl (fun aA hF => ?_)
  refine wp_seq_k (fun K1 hK1 => ?_)
  refine wp_region_lit ?_
  refine wpl_op (i := 0) rfl (o_val (v := (.int .i64 0)) hF rfl rfl rfl rfl (rn_assign rfl) ?_)
  intro a2 hF3; clear hF
  refine wpList_nil ?_
  refine hK1 _ _ ?_
  clear hK1
  refine wp_seq_k (fun K4 hK4 => ?_)
  refine wp_seq_k (fun K5 hK5 => ?_)
  refine wp_region_lit ?_
  refine wpl_op (i := 0) rfl (o_val (v := (.int .i64 (n : Nat))) hF3 rfl rfl rfl rfl (rn_move (hF3.get rfl)) ?_)
  intro a6 hF7; clear hF3
  refine wpl_op (i := 1) rfl (o_val (v := (.bool (decide (((n : Nat) : Int) = (1 : Int))))) hF7 rfl rfl rfl rfl (rn_eql (hF7.get rfl) rfl) ?_)
  intro a8 hF9; clear hF7
  refine wpList_nil ?_
  refine hK5 _ _ ?_
  clear hK5
  by_cases hc10 : ((n : Nat) : Int) = (1 : Int)
  · skip
    refine wp_cond_true (c_true hF9 rfl (decide_eq_true hc10)) ?_
    refine wp_seq_k (fun K11 hK11 => ?_)
    refine wp_region_lit ?_
    refine wpl_op (i := 0) rfl (o_val (v := (.int .i64 0)) hF9 rfl rfl rfl rfl (rn_assign rfl) ?_)
    intro a12 hF13; clear hF9
    refine wpList_nil ?_
    refine hK11 _ _ ?_
    clear hK11
    refine wp_ret ?_
    refine ret_then ?_
    refine ret1 hF13 rfl rfl ?_
    exact ⟨by rw [dirs_one (by omega)]; simp only [List.length_cons, List.length_nil]; congr 2 <;> omega, (Ext.refl w)⟩
  · skip
    refine wp_cond_false (c_false hF9 rfl (decide_eq_false hc10)) ?_
    refine wp_skip ?_
    refine hK4 _ _ ?_
    clear hK4
    refine wp_seq_k (fun K14 hK14 => ?_)
    refine wp_region_lit ?_
    refine wpl_op (i := 0) rfl (o_val (v := (.int .i64 (n : Nat))) hF9 rfl rfl rfl rfl (rn_move (hF9.get rfl)) ?_)
    intro a15 hF16; clear hF9
    have z17 := half_lt (n := n) (by omega); have z18 := half_pos n
    refine wpl_op (i := 1) rfl (o_call hF16 rfl rfl rfl rfl (rn_call (args1 (hF16.get rfl)) rfl (by kernel_rfl)) (rhalf_any n _ (by omega) (by omega)) ?_)
    rintro _ w19 ⟨rfl, hx20⟩
    refine ⟨_, rfl, ?_⟩; intro a21 hF22; clear hF16; have z23 := hx20.size
    refine wpl_op (i := 2) rfl (o_val (v := (.int .i64 (half n : Nat))) hF22 rfl rfl rfl rfl (rn_assign (hF22.get rfl)) ?_)
    intro a24 hF25; clear hF22
    refine wpList_nil ?_
    refine hK14 _ _ ?_
    clear hK14
    refine wp_seq_k (fun K26 hK26 => ?_)
    refine wp_seq_k (fun K27 hK27 => ?_)
    refine wp_region_lit ?_
    refine wpl_op (i := 0) rfl (o_val (v := (.int .i64 (a : Nat))) hF25 rfl rfl rfl rfl (rn_move (hF25.get rfl)) ?_)
    intro a28 hF29; clear hF25
    refine wpl_op (i := 1) rfl (o_val (v := (.int .i64 (half n : Nat))) hF29 rfl rfl rfl rfl (rn_move (hF29.get rfl)) ?_)
    intro a30 hF31; clear hF29
    refine wpl_op (i := 2) rfl (o_val (v := (.bool (decide (((a : Nat) : Int) < ((half n : Nat) : Int))))) hF31 rfl rfl rfl rfl (rn_lss (hF31.get rfl) (hF31.get rfl)) ?_)
    intro a32 hF33; clear hF31
    refine wpList_nil ?_
    refine hK27 _ _ ?_
    clear hK27
    have hF34 := ((((((hF33.nil.cons (hF33.get (t := 12) (v := (.bool (decide (((a : Nat) : Int) < ((half n : Nat) : Int))))) rfl)).cons (hF33.get (t := 5) (v := (.int .i64 (half n : Nat))) rfl)).cons (hF33.get (t := 7) (v := (.bool (decide (((n : Nat) : Int) = (1 : Int))))) rfl)).cons (hF33.get (t := 4) (v := (.int .i64 0)) rfl)).cons (hF33.get (t := 1) (v := (.int .i64 (n : Nat))) rfl)).cons (hF33.get (t := 0) (v := (.int .i64 (a : Nat))) rfl))
    clear hF33
    by_cases hc35 : ((a : Nat) : Int) < ((half n : Nat) : Int)
    · skip
      refine wp_cond_true (c_true hF34 rfl (decide_eq_true hc35)) ?_
      refine wp_seq_k (fun K36 hK36 => ?_)
      refine wp_region_lit ?_
      refine wpl_op (i := 0) rfl (o_val (v := (.int .i64 (a : Nat))) hF34 rfl rfl rfl rfl (rn_move (hF34.get rfl)) ?_)
      intro a37 hF38; clear hF34
      refine wpl_op (i := 1) rfl (o_val (v := (.int .i64 (half n : Nat))) hF38 rfl rfl rfl rfl (rn_move (hF38.get rfl)) ?_)
      intro a39 hF40; clear hF38
      have z41 := dirs_le _ a (half n) (Nat.le_refl _)
      refine wpl_op (i := 2) rfl (o_call hF40 rfl rfl rfl rfl (rn_call (args2 (hF40.get rfl) (hF40.get rfl)) rfl (by kernel_rfl)) (ih a (half n) _ (by omega) (by omega) (by omega)) ?_)
      rintro _ w42 ⟨rfl, hx43⟩
      refine ⟨_, rfl, ?_⟩; intro a44 hF45; clear hF40; have z46 := hx43.size
      refine wpl_op (i := 3) rfl (o_val (v := (.int .i64 (1 + ((dirs a (half n)).length) : Nat))) hF45 rfl rfl rfl rfl (rn_addN (a := 1) (b := (dirs a (half n)).length) rfl (hF45.get rfl) (by omega)) ?_)
      intro a47 hF48; clear hF45
      refine wpl_op (i := 4) rfl (o_val (v := (.int .i64 (1 + ((dirs a (half n)).length) : Nat))) hF48 rfl rfl rfl rfl (rn_assign (hF48.get rfl)) ?_)
      intro a49 hF50; clear hF48
      refine wpList_nil ?_
      refine hK36 _ _ ?_
      clear hK36
      have hF51 := ((((((hF50.nil.cons (hF50.get (t := 12) (v := (.bool (decide (((a : Nat) : Int) < ((half n : Nat) : Int))))) rfl)).cons (hF50.get (t := 5) (v := (.int .i64 (half n : Nat))) rfl)).cons (hF50.get (t := 7) (v := (.bool (decide (((n : Nat) : Int) = (1 : Int))))) rfl)).cons (hF50.get (t := 4) (v := (.int .i64 (1 + ((dirs a (half n)).length) : Nat))) rfl)).cons (hF50.get (t := 1) (v := (.int .i64 (n : Nat))) rfl)).cons (hF50.get (t := 0) (v := (.int .i64 (a : Nat))) rfl))
      clear hF50
      refine wp_ret ?_
      refine ret_then ?_
      refine ret1 hF51 rfl rfl ?_
      exact ⟨by rw [dirs_first (at_ := a) (n := n) (by omega) (by omega)]; simp only [List.length_cons, List.length_nil]; congr 2 <;> omega, (((Ext.refl w).trans hx20).trans hx43)⟩
    · skip
      refine wp_cond_false (c_false hF34 rfl (decide_eq_false hc35)) ?_
      refine wp_skip ?_
      refine hK26 _ _ ?_
      clear hK26
      refine wp_seq_k (fun K52 hK52 => ?_)
      refine wp_region_lit ?_
      refine wpl_op (i := 0) rfl (o_val (v := (.int .i64 (a : Nat))) hF34 rfl rfl rfl rfl (rn_move (hF34.get rfl)) ?_)
      intro a53 hF54; clear hF34
      refine wpl_op (i := 1) rfl (o_val (v := (.int .i64 (half n : Nat))) hF54 rfl rfl rfl rfl (rn_move (hF54.get rfl)) ?_)
      intro a55 hF56; clear hF54
      refine wpl_op (i := 2) rfl (o_val (v := (.int .i64 (a - (half n) : Nat))) hF56 rfl rfl rfl rfl (rn_subN (a := a) (b := half n) (hF56.get rfl) (hF56.get rfl) (by omega) (by omega)) ?_)
      intro a57 hF58; clear hF56
      refine wpl_op (i := 3) rfl (o_val (v := (.int .i64 (n : Nat))) hF58 rfl rfl rfl rfl (rn_move (hF58.get rfl)) ?_)
      intro a59 hF60; clear hF58
      refine wpl_op (i := 4) rfl (o_val (v := (.int .i64 (half n : Nat))) hF60 rfl rfl rfl rfl (rn_move (hF60.get rfl)) ?_)
      intro a61 hF62; clear hF60
      refine wpl_op (i := 5) rfl (o_val (v := (.int .i64 (n - (half n) : Nat))) hF62 rfl rfl rfl rfl (rn_subN (a := n) (b := half n) (hF62.get rfl) (hF62.get rfl) (by omega) (by omega)) ?_)
      intro a63 hF64; clear hF62
      have z65 := dirs_le _ (a - (half n)) (n - (half n)) (Nat.le_refl _)
      refine wpl_op (i := 6) rfl (o_call hF64 rfl rfl rfl rfl (rn_call (args2 (hF64.get rfl) (hF64.get rfl)) rfl (by kernel_rfl)) (ih (a - (half n)) (n - (half n)) _ (by omega) (by omega) (by omega)) ?_)
      rintro _ w66 ⟨rfl, hx67⟩
      refine ⟨_, rfl, ?_⟩; intro a68 hF69; clear hF64; have z70 := hx67.size
      refine wpl_op (i := 7) rfl (o_val (v := (.int .i64 (1 + ((dirs (a - (half n)) (n - (half n))).length) : Nat))) hF69 rfl rfl rfl rfl (rn_addN (a := 1) (b := (dirs (a - (half n)) (n - (half n))).length) rfl (hF69.get rfl) (by omega)) ?_)
      intro a71 hF72; clear hF69
      refine wpl_op (i := 8) rfl (o_val (v := (.int .i64 (1 + ((dirs (a - (half n)) (n - (half n))).length) : Nat))) hF72 rfl rfl rfl rfl (rn_assign (hF72.get rfl)) ?_)
      intro a73 hF74; clear hF72
      refine wpList_nil ?_
      refine hK52 _ _ ?_
      clear hK52
      have hF75 := ((((((hF74.nil.cons (hF74.get (t := 12) (v := (.bool (decide (((a : Nat) : Int) < ((half n : Nat) : Int))))) rfl)).cons (hF74.get (t := 5) (v := (.int .i64 (half n : Nat))) rfl)).cons (hF74.get (t := 7) (v := (.bool (decide (((n : Nat) : Int) = (1 : Int))))) rfl)).cons (hF74.get (t := 4) (v := (.int .i64 (1 + ((dirs (a - (half n)) (n - (half n))).length) : Nat))) rfl)).cons (hF74.get (t := 1) (v := (.int .i64 (n : Nat))) rfl)).cons (hF74.get (t := 0) (v := (.int .i64 (a : Nat))) rfl))
      clear hF74
      refine wp_ret ?_
      refine ret1 hF75 rfl rfl ?_
      exact ⟨by rw [dirs_second (at_ := a) (n := n) (by omega) (by omega)]; simp only [List.length_cons, List.length_nil]; congr 2 <;> omega, (((Ext.refl w).trans hx20).trans hx67)⟩

theorem rlength_at (a n : Int) (w : World) (h0 : 0 ≤ a) (h1 : a < n) (h2 : n ≤ 4611686018427387904) :
    Calls Tryd.prog 35 #[.int .i64 a, .int .i64 n] w (fun e w' => e = .returned (.int .i64 ((dirs a.toNat n.toNat).length : Nat)) ∧ Ext w w') := by
  obtain ⟨an, rfl⟩ : ∃ an : Nat, a = (an : Int) := ⟨a.toNat, by omega⟩
  obtain ⟨nn, rfl⟩ : ∃ nn : Nat, n = (nn : Int) := ⟨n.toNat, by omega⟩
  exact rlength_ind _ an nn w (by omega) (by omega) (Nat.lt_succ_self _)

set_option maxRecDepth 100000 in
set_option maxHeartbeats 1000000 in
theorem rclimb_ind (d : List UInt8) (hd : d.length = 32) : ∀ (N : Nat) (a n : Nat) (p : List (List UInt8)) (S : Nat → Prop) (w : World) {m : Nat} {v : Value} (_ : All32 p) (_ : Fl S w 32 v m (digVals p)) (_ : p.length = (dirs a n).length) (_ : a < n) (_ : n ≤ 4611686018427387904) (_ : n < N), Calls Tryd.prog 36 #[.agg (byteVals d).toArray, .int .i64 (a : Nat), .int .i64 (n : Nat), v] w (fun e w' => e = .returned (.agg (byteVals (climbL nodeD leafD d a n p)).toArray) ∧ Ext w w') := by
  intro N
  induction N with
  | zero => intros; omega
  | succ N ih0 =>
  intro a n p S w m v h32 hf0 hp ha hbig hN
  have ih : ∀ (a' n' : Nat) (p' : List (List UInt8)) (w' : World) {S : Nat → Prop} {m' : Nat} {v' : Value} (_ : All32 p') (_ : Fl S w' 32 v' m' (digVals p')) (_ : p'.length = (dirs a' n').length) (_ : a' < n') (_ : n' ≤ 4611686018427387904) (_ : n' < n), Calls Tryd.prog 36 #[.agg (byteVals d).toArray, .int .i64 (a' : Nat), .int .i64 (n' : Nat), v'] w' (fun e w'' => e = .returned (.agg (byteVals (climbL nodeD leafD d a' n' p')).toArray) ∧ Ext w' w'') := by
    intros; apply ih0 <;> first | assumption | omega
  clear ih0
  have hm := Fl.dlen hf0 h32
  subst hm
  obtain ⟨A, c, rfl, hcc0⟩ := hf0.form
  have hf := hf0
  have hc : Fl (Clip S w) w 32 (.slice A p.length c) p.length (digVals p) := hf.clip
  have hcc := (Fl.cel hc).2.1
  refine calls_enter (l := [(.agg (byteVals d).toArray), (.int .i64 (a : Nat)), (.int .i64 (n : Nat)), (.slice A p.length c)]) Tryd.func36 rfl rfl rfl (fun aA hF => ?_)
  refine wp_seq_k (fun K1 hK1 => ?_)
  refine wp_region_lit ?_
  refine wpl_op (i := 0) rfl (o_new (fun g => (.pointer (some ⟨g, 0, none⟩))) (byteVals d) 26 hF rfl rfl rfl rfl (rn_box (hF.get rfl) (box_arr _)) ?_)
  intro g2 w3 a8 hF9 z6 z7 b4 hx5; clear hF
  refine wpl_op (i := 1) rfl (o_new (fun g => (.pointer (some ⟨g, 0, none⟩))) (byteVals (List.replicate 32 0)) 26 hF9 rfl rfl rfl rfl (by kernel_rfl) ?_)
  intro g10 w11 a16 hF17 z14 z15 b12 hx13; clear hF9
  refine wpList_nil ?_
  refine hK1 _ _ ?_
  clear hK1
  refine wp_seq_k (fun K18 hK18 => ?_)
  refine wp_seq_k (fun K19 hK19 => ?_)
  refine wp_region_lit ?_
  refine wpl_op (i := 0) rfl (o_val (v := (.int .i64 (n : Nat))) hF17 rfl rfl rfl rfl (rn_move (hF17.get rfl)) ?_)
  intro a20 hF21; clear hF17
  refine wpl_op (i := 1) rfl (o_val (v := (.bool (decide (((n : Nat) : Int) = (1 : Int))))) hF21 rfl rfl rfl rfl (rn_eql (hF21.get rfl) rfl) ?_)
  intro a22 hF23; clear hF21
  refine wpList_nil ?_
  refine hK19 _ _ ?_
  clear hK19
  by_cases hc24 : ((n : Nat) : Int) = (1 : Int)
  · skip
    refine wp_cond_true (c_true hF23 rfl (decide_eq_true hc24)) ?_
    refine wp_seq_k (fun K25 hK25 => ?_)
    refine wp_region_lit ?_
    refine wpl_op (i := 0) rfl (o_val (v := (.slice (some ⟨g2, 0, none⟩) 32 32)) hF23 rfl rfl rfl rfl (rn_arrAll Tryd.underlying26 (by kernel_rfl : (Tryd.prog.info? 5).map (·.size) = some 1) (hF23.get rfl)) ?_)
    intro a26 hF27; clear hF23
    have b28 : Blk w11 g2 26 (byteVals d) := (b4.ext hx13)
    refine wpl_op (i := 1) rfl (o_call hF27 rfl rfl rfl rfl (rn_call (args2 rfl (hF27.get rfl)) rfl (by kernel_rfl)) (rtagged_at ([108, 101, 97, 102]) (v := (.slice (some ⟨g2, 0, none⟩) 32 32)) (n := 32) d _ (Fl.blk (S := fun b => b = g2) (k := 1) (n := 32) (c := 32) b28 (by rw [byteVals_len hd, Nat.mul_one]) (byteVals_one _) (by omega) rfl) (by decide) (by omega)) ?_)
    rintro _ w29 ⟨rfl, hx30⟩
    refine ⟨_, rfl, ?_⟩; intro a31 hF32; clear hF27; have z33 := hx30.size
    have b37 : Blk w29 g10 26 (byteVals (List.replicate 32 0)) := (b12.ext hx30)
    refine wpl_op (i := 2) rfl (o_store (cells := (byteVals (tagged ([108, 101, 97, 102]) d))) hF32 rfl rfl rfl rfl (hF32.get rfl) (hF32.get rfl) b37 ((by kernel_rfl : (Tryd.prog.info? 26).map (·.size) = some 32).trans (congrArg some (byteVals_len (tagged_len _ _)).symm)) ((byteVals_len (show List.length (List.replicate 32 0) = _ from List.length_replicate)).trans (byteVals_len (tagged_len _ _)).symm) (byteVals_one _) ?_)
    intro w34 b35 hg36; have z38 := hg36.size
    refine wpList_nil ?_
    refine hK25 _ _ ?_
    clear hK25
    refine wp_ret ?_
    refine ret_then ?_
    refine retC hF32 rfl rfl b35 Tryd.underlying26 rfl ((by kernel_rfl : (Tryd.prog.info? 26).map (·.size) = some 32).trans (congrArg some (byteVals_len (tagged_len _ _)).symm)) ?_
    exact ⟨by rw [climb_one' (d := d) (a := a) (n := n) (p := p) (by omega), leafD], (((((Ext.refl w).trans hx5).trans hx13).trans hx30).grownN hg36 (by omega))⟩
  · skip
    refine wp_cond_false (c_false hF23 rfl (decide_eq_false hc24)) ?_
    refine wp_skip ?_
    refine hK18 _ _ ?_
    clear hK18
    refine wp_seq_k (fun K39 hK39 => ?_)
    refine wp_region_lit ?_
    refine wpl_op (i := 0) rfl (o_val (v := (.int .i64 (n : Nat))) hF23 rfl rfl rfl rfl (rn_move (hF23.get rfl)) ?_)
    intro a40 hF41; clear hF23
    have z42 := half_lt (n := n) (by omega); have z43 := half_pos n
    refine wpl_op (i := 1) rfl (o_call hF41 rfl rfl rfl rfl (rn_call (args1 (hF41.get rfl)) rfl (by kernel_rfl)) (rhalf_any n _ (by omega) (by omega)) ?_)
    rintro _ w44 ⟨rfl, hx45⟩
    refine ⟨_, rfl, ?_⟩; intro a46 hF47; clear hF41; have z48 := hx45.size
    refine wpl_op (i := 2) rfl (o_val (v := (.int .i64 (half n : Nat))) hF47 rfl rfl rfl rfl (rn_assign (hF47.get rfl)) ?_)
    intro a49 hF50; clear hF47
    refine wpList_nil ?_
    refine hK39 _ _ ?_
    clear hK39
    refine wp_seq_k (fun K51 hK51 => ?_)
    have z52 : 0 < p.length := by
      by_cases hq : a < half n
      · exact (climb_first' (d := d) (by omega) hq hp rfl).2.2
      · exact (climb_second' (d := d) (by omega) hq hp rfl).2.2
    refine wp_region_lit ?_
    refine wpl_op (i := 0) rfl (o_val (v := (.slice A p.length c)) hF50 rfl rfl rfl rfl (rn_move (hF50.get rfl)) ?_)
    intro a53 hF54; clear hF50
    refine wpl_op (i := 1) rfl (o_val (v := (.slice A p.length c)) hF54 rfl rfl rfl rfl (rn_move (hF54.get rfl)) ?_)
    intro a55 hF56; clear hF54
    refine wpl_op (i := 2) rfl (o_val (v := (.int .i64 (p.length : Nat))) hF56 rfl rfl rfl rfl (rn_len_slice Tryd.underlying30 (hF56.get rfl)) ?_)
    intro a57 hF58; clear hF56
    refine wpl_op (i := 3) rfl (o_val (v := (.int .i64 (p.length - 1 : Nat))) hF58 rfl rfl rfl rfl (rn_subN (a := p.length) (b := 1) (hF58.get rfl) rfl (by omega) (by omega)) ?_)
    intro a59 hF60; clear hF58
    have d64 := (((hc.ext hx5).ext hx13).ext hx45)
    obtain ⟨b61, o62, hA63, -⟩ := Fl.at d64 (by omega)
    refine wpl_op (i := 4) rfl (o_val (v := (.pointer (some ⟨b61, o62 + (p.length - 1) * 32, none⟩))) hF60 rfl rfl rfl rfl (rn_indexE Tryd.underlying30 (by kernel_rfl : (Tryd.prog.info? 26).map (·.size) = some 32) ((hF60.get rfl).trans (by rw [hA63])) (hF60.get rfl) (by omega : (0 : Int) ≤ (p.length - 1 : Nat)) (by omega : ((p.length - 1 : Nat) : Int) < ((p.length : Nat) : Int)) (by omega)) ?_)
    intro a65 hF66; clear hF60
    refine wpl_op (i := 5) rfl (o_val (v := (.agg (byteVals (p.getD (p.length - 1) [])).toArray)) hF66 rfl rfl rfl rfl (rn_loadN (cs := byteVals (p.getD (p.length - 1) [])) (hF66.get rfl) Tryd.underlying26 rfl ((by kernel_rfl : (Tryd.prog.info? 26).map (·.size) = some 32).trans (congrArg some (byteVals_len (dig_len h32 (p.length - 1) (by omega))).symm)) (Fl.digAt d64 hA63 h32 (by omega))) ?_)
    intro a67 hF68; clear hF66
    refine wpl_op (i := 6) rfl (o_new (fun g => (.pointer (some ⟨g, 0, none⟩))) (byteVals (List.replicate 32 0)) 26 hF68 rfl rfl rfl rfl (by kernel_rfl) ?_)
    intro g69 w70 a75 hF76 z73 z74 b71 hx72; clear hF68
    refine wpl_op (i := 7) rfl (o_store (cells := (byteVals (p.getD (p.length - 1) []))) hF76 rfl rfl rfl rfl (hF76.get rfl) (hF76.get rfl) b71 ((by kernel_rfl : (Tryd.prog.info? 26).map (·.size) = some 32).trans (congrArg some (byteVals_len (dig_len h32 (p.length - 1) (by omega))).symm)) ((byteVals_len (show List.length (List.replicate 32 0) = _ from List.length_replicate)).trans (byteVals_len (dig_len h32 (p.length - 1) (by omega))).symm) (byteVals_one _) ?_)
    intro w77 b78 hg79; have z80 := hg79.size
    refine wpList_nil ?_
    refine hK51 _ _ ?_
    clear hK51
    have hF81 := (((((((((hF76.nil.cons (hF76.get (t := 10) (v := (.pointer (some ⟨g69, 0, none⟩))) rfl)).cons (hF76.get (t := 9) (v := (.int .i64 (half n : Nat))) rfl)).cons (hF76.get (t := 12) (v := (.bool (decide (((n : Nat) : Int) = (1 : Int))))) rfl)).cons (hF76.get (t := 8) (v := (.pointer (some ⟨g10, 0, none⟩))) rfl)).cons (hF76.get (t := 4) (v := (.pointer (some ⟨g2, 0, none⟩))) rfl)).cons (hF76.get (t := 3) (v := (.slice A p.length c)) rfl)).cons (hF76.get (t := 2) (v := (.int .i64 (n : Nat))) rfl)).cons (hF76.get (t := 1) (v := (.int .i64 (a : Nat))) rfl)).cons (hF76.get (t := 0) (v := (.agg (byteVals d).toArray)) rfl))
    clear hF76
    refine wp_seq_k (fun K82 hK82 => ?_)
    refine wp_seq_k (fun K83 hK83 => ?_)
    refine wp_region_lit ?_
    refine wpl_op (i := 0) rfl (o_val (v := (.int .i64 (a : Nat))) hF81 rfl rfl rfl rfl (rn_move (hF81.get rfl)) ?_)
    intro a84 hF85; clear hF81
    refine wpl_op (i := 1) rfl (o_val (v := (.int .i64 (half n : Nat))) hF85 rfl rfl rfl rfl (rn_move (hF85.get rfl)) ?_)
    intro a86 hF87; clear hF85
    refine wpl_op (i := 2) rfl (o_val (v := (.bool (decide (((a : Nat) : Int) < ((half n : Nat) : Int))))) hF87 rfl rfl rfl rfl (rn_lss (hF87.get rfl) (hF87.get rfl)) ?_)
    intro a88 hF89; clear hF87
    refine wpList_nil ?_
    refine hK83 _ _ ?_
    clear hK83
    by_cases hc90 : ((a : Nat) : Int) < ((half n : Nat) : Int)
    · skip
      refine wp_cond_true (c_true hF89 rfl (decide_eq_true hc90)) ?_
      refine wp_seq_k (fun K91 hK91 => ?_)
      have hx93 : ∃ W, w77.drew = W ∧ Ext w77 W := ⟨_, rfl, (Ext.refl _).drew⟩
      obtain ⟨w92, e94, hx93⟩ := hx93
      have z95 := hx93.size
      refine any_start (fun W => Ext w92 W ∧ Blk W g2 26 (byteVals d) ∧ Blk W g69 26 (byteVals (p.getD (p.length - 1) [])) ∧ Blk W g10 26 (byteVals (List.replicate 32 0))) (fun i => i == 11) 12 #[false, false, false, false, false, false, false, false, false, false, false, false] rfl rfl rfl ?_
      rw [e94]; clear e94
      have b97 : Blk w92 g2 26 (byteVals d) := (((((b4.ext hx13).ext hx45).ext hx72).grownN hg79 (by omega)).ext hx93)
      have b98 : Blk w92 g69 26 (byteVals (p.getD (p.length - 1) [])) := (b78.ext hx93)
      have b99 : Blk w92 g10 26 (byteVals (List.replicate 32 0)) := ((((b12.ext hx45).ext hx72).grownN hg79 (by omega)).ext hx93)
      have hS96 : Ext w92 w92 ∧ Blk w92 g2 26 (byteVals d) ∧ Blk w92 g69 26 (byteVals (p.getD (p.length - 1) [])) ∧ Blk w92 g10 26 (byteVals (List.replicate 32 0)) := ⟨(Ext.refl w92), b97, b98, b99⟩
      refine any_val (i := 0) (v := (.agg (byteVals d).toArray)) hF89 (by decide +kernel) (by decide +kernel) rfl rfl rfl rfl (fun _ _ _ _ h => h) rfl hS96 (fun W hW => (rn_loadBlk (hF89.get rfl) hW.2.1 Tryd.underlying26 rfl ((by kernel_rfl : (Tryd.prog.info? 26).map (·.size) = some 32).trans (congrArg some (byteVals_len hd).symm)))) ?_
      intro a100 hF101; clear hF89
      refine any_pure (i := 1) (v := (.int .i64 (a : Nat))) hF101 (by decide +kernel) (by decide +kernel) rfl rfl rfl rfl (fun _ _ _ _ h => h) rfl (fun W => (rn_move (hF101.get rfl))) ?_
      intro a102 hF103; clear hF101
      refine any_pure (i := 2) (v := (.int .i64 (half n : Nat))) hF103 (by decide +kernel) (by decide +kernel) rfl rfl rfl rfl (fun _ _ _ _ h => h) rfl (fun W => (rn_move (hF103.get rfl))) ?_
      intro a104 hF105; clear hF103
      refine any_pure (i := 3) (v := (.slice A p.length c)) hF105 (by decide +kernel) (by decide +kernel) rfl rfl rfl rfl (fun _ _ _ _ h => h) rfl (fun W => (rn_move (hF105.get rfl))) ?_
      intro a106 hF107; clear hF105
      refine any_pure (i := 4) (v := (.slice A p.length c)) hF107 (by decide +kernel) (by decide +kernel) rfl rfl rfl rfl (fun _ _ _ _ h => h) rfl (fun W => (rn_move (hF107.get rfl))) ?_
      intro a108 hF109; clear hF107
      refine any_pure (i := 5) (v := (.int .i64 (p.length : Nat))) hF109 (by decide +kernel) (by decide +kernel) rfl rfl rfl rfl (fun _ _ _ _ h => h) rfl (fun W => (rn_len_slice Tryd.underlying30 (hF109.get rfl))) ?_
      intro a110 hF111; clear hF109
      refine any_pure (i := 6) (v := (.int .i64 (p.length - 1 : Nat))) hF111 (by decide +kernel) (by decide +kernel) rfl rfl rfl rfl (fun _ _ _ _ h => h) rfl (fun W => (rn_subN (a := p.length) (b := 1) (hF111.get rfl) rfl (by omega) (by omega))) ?_
      intro a112 hF113; clear hF111
      refine any_pure (i := 7) (v := (.slice A (p.length - 1) c)) hF113 (by decide +kernel) (by decide +kernel) rfl rfl rfl rfl (fun _ _ _ _ h => h) rfl (fun W => (rn_sliceHi Tryd.underlying30 (by kernel_rfl : (Tryd.prog.info? 26).map (·.size) = some 32) (hF113.get rfl) (hF113.get rfl) (by omega : (0 : Int) ≤ (p.length - 1 : Nat)) (by omega : ((p.length - 1 : Nat) : Int) ≤ ((c : Nat) : Int)))) ?_
      intro a114 hF115; clear hF113
      refine any_val (i := 9) (v := (.agg (byteVals (p.getD (p.length - 1) [])).toArray)) hF115 (by decide +kernel) (by decide +kernel) rfl rfl rfl rfl (fun _ _ _ _ h => h) rfl hS96 (fun W hW => (rn_loadBlk (hF115.get rfl) hW.2.2.1 Tryd.underlying26 rfl ((by kernel_rfl : (Tryd.prog.info? 26).map (·.size) = some 32).trans (congrArg some (byteVals_len (dig_len h32 (p.length - 1) (by omega))).symm)))) ?_
      intro a116 hF117; clear hF115
      refine any_one (i := 8) (by decide +kernel) rfl ?_
      have d118 := (hc.pres (((((((Pres.refl w).ext hx5).ext hx13).ext hx45).ext hx72).grownN hg79 (fun h => by simp only [Clip] at h; omega)).ext hx93))
      have hf119 := (Fl.take_eq (j := (p.length - 1)) d118 (by omega) (digVals_take h32 _))
      have hcl120 := climb_first' (d := d) (a := a) (n := n) (p := p) (m := p.length) (by omega) (by omega) hp rfl
      refine o_call hF117 rfl rfl rfl rfl (rn_call (args4 (hF117.get rfl) (hF117.get rfl) (hF117.get rfl) (hF117.get rfl)) rfl (by kernel_rfl)) (ih a (half n) (p.take (p.length - 1)) _ (All32.take h32 _) hf119 hcl120.2.1 (by omega) (by omega) (by omega)) ?_
      rintro _ w121 ⟨rfl, hx122⟩
      refine ⟨_, rfl, ?_⟩; intro a123 hF124; clear hF117; have z125 := hx122.size
      have b126 : Blk w121 g2 26 (byteVals d) := (b97.ext hx122)
      have b127 : Blk w121 g69 26 (byteVals (p.getD (p.length - 1) [])) := (b98.ext hx122)
      have b128 : Blk w121 g10 26 (byteVals (List.replicate 32 0)) := (b99.ext hx122)
      refine ⟨fun _ _ => ⟨((Ext.refl w92).trans hx122), b126, b127, b128⟩, ?_⟩
      refine any_one (i := 10) (by decide +kernel) rfl ?_
      refine o_call hF124 rfl rfl rfl rfl (rn_call (args2 (hF124.get rfl) (hF124.get rfl)) rfl (by kernel_rfl)) (rnode_any (climbL nodeD leafD d a (half n) (p.take (p.length - 1))) (p.getD (p.length - 1) []) _ (climbL_len _ _ _ _) (dig_len h32 (p.length - 1) (by omega))) ?_
      rintro _ w129 ⟨rfl, hx130⟩
      refine ⟨_, rfl, ?_⟩; intro a131 hF132; clear hF124; have z133 := hx130.size
      have b134 : Blk w129 g2 26 (byteVals d) := (b126.ext hx130)
      have b135 : Blk w129 g69 26 (byteVals (p.getD (p.length - 1) [])) := (b127.ext hx130)
      have b136 : Blk w129 g10 26 (byteVals (List.replicate 32 0)) := (b128.ext hx130)
      refine ⟨fun _ _ => ⟨(((Ext.refl w92).trans hx122).trans hx130), b134, b135, b136⟩, ?_⟩
      refine any_one (i := 11) (by decide +kernel) rfl ?_
      refine o_store (cells := (byteVals (nodeD (climbL nodeD leafD d a (half n) (p.take (p.length - 1))) (p.getD (p.length - 1) [])))) hF132 rfl rfl rfl rfl (hF132.get rfl) (hF132.get rfl) b136 ((by kernel_rfl : (Tryd.prog.info? 26).map (·.size) = some 32).trans (congrArg some (byteVals_len (nodeD_len _ _)).symm)) ((byteVals_len (show List.length (List.replicate 32 0) = _ from List.length_replicate)).trans (byteVals_len (nodeD_len _ _)).symm) (byteVals_one _) ?_
      intro w137 b138 hg139; have z140 := hg139.size
      refine ⟨fun h => absurd h (by decide), ?_⟩
      refine any_nil (by decide +kernel) ?_
      refine hK91 _ _ ?_
      clear hK91
      have hF141 := ((((((((((hF132.nil.cons (hF132.get (t := 25) (v := (.bool (decide (((a : Nat) : Int) < ((half n : Nat) : Int))))) rfl)).cons (hF132.get (t := 10) (v := (.pointer (some ⟨g69, 0, none⟩))) rfl)).cons (hF132.get (t := 9) (v := (.int .i64 (half n : Nat))) rfl)).cons (hF132.get (t := 12) (v := (.bool (decide (((n : Nat) : Int) = (1 : Int))))) rfl)).cons (hF132.get (t := 8) (v := (.pointer (some ⟨g10, 0, none⟩))) rfl)).cons (hF132.get (t := 4) (v := (.pointer (some ⟨g2, 0, none⟩))) rfl)).cons (hF132.get (t := 3) (v := (.slice A p.length c)) rfl)).cons (hF132.get (t := 2) (v := (.int .i64 (n : Nat))) rfl)).cons (hF132.get (t := 1) (v := (.int .i64 (a : Nat))) rfl)).cons (hF132.get (t := 0) (v := (.agg (byteVals d).toArray)) rfl))
      clear hF132
      refine wp_ret ?_
      refine ret_then ?_
      refine retC hF141 rfl rfl b138 Tryd.underlying26 rfl ((by kernel_rfl : (Tryd.prog.info? 26).map (·.size) = some 32).trans (congrArg some (byteVals_len (nodeD_len _ _)).symm)) ?_
      exact ⟨by rw [hcl120.1], ((((((((((Ext.refl w).trans hx5).trans hx13).trans hx45).trans hx72).grownN hg79 (by omega)).trans hx93).trans hx122).trans hx130).grownN hg139 (by omega))⟩
    · skip
      refine wp_cond_false (c_false hF89 rfl (decide_eq_false hc90)) ?_
      refine wp_skip ?_
      refine hK82 _ _ ?_
      clear hK82
      refine wp_seq_k (fun K142 hK142 => ?_)
      have hx144 : ∃ W, w77.drew = W ∧ Ext w77 W := ⟨_, rfl, (Ext.refl _).drew⟩
      obtain ⟨w143, e145, hx144⟩ := hx144
      have z146 := hx144.size
      refine any_start (fun W => Ext w143 W ∧ Blk W g69 26 (byteVals (p.getD (p.length - 1) [])) ∧ Blk W g2 26 (byteVals d) ∧ Blk W g10 26 (byteVals (List.replicate 32 0))) (fun i => i == 15) 16 #[false, false, false, false, false, false, false, false, false, false, false, false, false, false, false, false] rfl rfl rfl ?_
      rw [e145]; clear e145
      have b148 : Blk w143 g69 26 (byteVals (p.getD (p.length - 1) [])) := (b78.ext hx144)
      have b149 : Blk w143 g2 26 (byteVals d) := (((((b4.ext hx13).ext hx45).ext hx72).grownN hg79 (by omega)).ext hx144)
      have b150 : Blk w143 g10 26 (byteVals (List.replicate 32 0)) := ((((b12.ext hx45).ext hx72).grownN hg79 (by omega)).ext hx144)
      have hS147 : Ext w143 w143 ∧ Blk w143 g69 26 (byteVals (p.getD (p.length - 1) [])) ∧ Blk w143 g2 26 (byteVals d) ∧ Blk w143 g10 26 (byteVals (List.replicate 32 0)) := ⟨(Ext.refl w143), b148, b149, b150⟩
      refine any_val (i := 0) (v := (.agg (byteVals (p.getD (p.length - 1) [])).toArray)) hF89 (by decide +kernel) (by decide +kernel) rfl rfl rfl rfl (fun _ _ _ _ h => h) rfl hS147 (fun W hW => (rn_loadBlk (hF89.get rfl) hW.2.1 Tryd.underlying26 rfl ((by kernel_rfl : (Tryd.prog.info? 26).map (·.size) = some 32).trans (congrArg some (byteVals_len (dig_len h32 (p.length - 1) (by omega))).symm)))) ?_
      intro a151 hF152; clear hF89
      refine any_val (i := 1) (v := (.agg (byteVals d).toArray)) hF152 (by decide +kernel) (by decide +kernel) rfl rfl rfl rfl (fun _ _ _ _ h => h) rfl hS147 (fun W hW => (rn_loadBlk (hF152.get rfl) hW.2.2.1 Tryd.underlying26 rfl ((by kernel_rfl : (Tryd.prog.info? 26).map (·.size) = some 32).trans (congrArg some (byteVals_len hd).symm)))) ?_
      intro a153 hF154; clear hF152
      refine any_pure (i := 2) (v := (.int .i64 (a : Nat))) hF154 (by decide +kernel) (by decide +kernel) rfl rfl rfl rfl (fun _ _ _ _ h => h) rfl (fun W => (rn_move (hF154.get rfl))) ?_
      intro a155 hF156; clear hF154
      refine any_pure (i := 3) (v := (.int .i64 (half n : Nat))) hF156 (by decide +kernel) (by decide +kernel) rfl rfl rfl rfl (fun _ _ _ _ h => h) rfl (fun W => (rn_move (hF156.get rfl))) ?_
      intro a157 hF158; clear hF156
      refine any_pure (i := 4) (v := (.int .i64 (a - (half n) : Nat))) hF158 (by decide +kernel) (by decide +kernel) rfl rfl rfl rfl (fun _ _ _ _ h => h) rfl (fun W => (rn_subN (a := a) (b := half n) (hF158.get rfl) (hF158.get rfl) (by omega) (by omega))) ?_
      intro a159 hF160; clear hF158
      refine any_pure (i := 5) (v := (.int .i64 (n : Nat))) hF160 (by decide +kernel) (by decide +kernel) rfl rfl rfl rfl (fun _ _ _ _ h => h) rfl (fun W => (rn_move (hF160.get rfl))) ?_
      intro a161 hF162; clear hF160
      refine any_pure (i := 6) (v := (.int .i64 (half n : Nat))) hF162 (by decide +kernel) (by decide +kernel) rfl rfl rfl rfl (fun _ _ _ _ h => h) rfl (fun W => (rn_move (hF162.get rfl))) ?_
      intro a163 hF164; clear hF162
      refine any_pure (i := 7) (v := (.int .i64 (n - (half n) : Nat))) hF164 (by decide +kernel) (by decide +kernel) rfl rfl rfl rfl (fun _ _ _ _ h => h) rfl (fun W => (rn_subN (a := n) (b := half n) (hF164.get rfl) (hF164.get rfl) (by omega) (by omega))) ?_
      intro a165 hF166; clear hF164
      refine any_pure (i := 8) (v := (.slice A p.length c)) hF166 (by decide +kernel) (by decide +kernel) rfl rfl rfl rfl (fun _ _ _ _ h => h) rfl (fun W => (rn_move (hF166.get rfl))) ?_
      intro a167 hF168; clear hF166
      refine any_pure (i := 9) (v := (.slice A p.length c)) hF168 (by decide +kernel) (by decide +kernel) rfl rfl rfl rfl (fun _ _ _ _ h => h) rfl (fun W => (rn_move (hF168.get rfl))) ?_
      intro a169 hF170; clear hF168
      refine any_pure (i := 10) (v := (.int .i64 (p.length : Nat))) hF170 (by decide +kernel) (by decide +kernel) rfl rfl rfl rfl (fun _ _ _ _ h => h) rfl (fun W => (rn_len_slice Tryd.underlying30 (hF170.get rfl))) ?_
      intro a171 hF172; clear hF170
      refine any_pure (i := 11) (v := (.int .i64 (p.length - 1 : Nat))) hF172 (by decide +kernel) (by decide +kernel) rfl rfl rfl rfl (fun _ _ _ _ h => h) rfl (fun W => (rn_subN (a := p.length) (b := 1) (hF172.get rfl) rfl (by omega) (by omega))) ?_
      intro a173 hF174; clear hF172
      refine any_pure (i := 12) (v := (.slice A (p.length - 1) c)) hF174 (by decide +kernel) (by decide +kernel) rfl rfl rfl rfl (fun _ _ _ _ h => h) rfl (fun W => (rn_sliceHi Tryd.underlying30 (by kernel_rfl : (Tryd.prog.info? 26).map (·.size) = some 32) (hF174.get rfl) (hF174.get rfl) (by omega : (0 : Int) ≤ (p.length - 1 : Nat)) (by omega : ((p.length - 1 : Nat) : Int) ≤ ((c : Nat) : Int)))) ?_
      intro a175 hF176; clear hF174
      refine any_one (i := 13) (by decide +kernel) rfl ?_
      have d177 := (hc.pres (((((((Pres.refl w).ext hx5).ext hx13).ext hx45).ext hx72).grownN hg79 (fun h => by simp only [Clip] at h; omega)).ext hx144))
      have hf178 := (Fl.take_eq (j := (p.length - 1)) d177 (by omega) (digVals_take h32 _))
      have hcl179 := climb_second' (d := d) (a := a) (n := n) (p := p) (m := p.length) (by omega) (by omega) hp rfl
      refine o_call hF176 rfl rfl rfl rfl (rn_call (args4 (hF176.get rfl) (hF176.get rfl) (hF176.get rfl) (hF176.get rfl)) rfl (by kernel_rfl)) (ih (a - (half n)) (n - (half n)) (p.take (p.length - 1)) _ (All32.take h32 _) hf178 hcl179.2.1 (by omega) (by omega) (by omega)) ?_
      rintro _ w180 ⟨rfl, hx181⟩
      refine ⟨_, rfl, ?_⟩; intro a182 hF183; clear hF176; have z184 := hx181.size
      have b185 : Blk w180 g69 26 (byteVals (p.getD (p.length - 1) [])) := (b148.ext hx181)
      have b186 : Blk w180 g2 26 (byteVals d) := (b149.ext hx181)
      have b187 : Blk w180 g10 26 (byteVals (List.replicate 32 0)) := (b150.ext hx181)
      refine ⟨fun _ _ => ⟨((Ext.refl w143).trans hx181), b185, b186, b187⟩, ?_⟩
      refine any_one (i := 14) (by decide +kernel) rfl ?_
      refine o_call hF183 rfl rfl rfl rfl (rn_call (args2 (hF183.get rfl) (hF183.get rfl)) rfl (by kernel_rfl)) (rnode_any (p.getD (p.length - 1) []) (climbL nodeD leafD d (a - (half n)) (n - (half n)) (p.take (p.length - 1))) _ (dig_len h32 (p.length - 1) (by omega)) (climbL_len _ _ _ _)) ?_
      rintro _ w188 ⟨rfl, hx189⟩
      refine ⟨_, rfl, ?_⟩; intro a190 hF191; clear hF183; have z192 := hx189.size
      have b193 : Blk w188 g69 26 (byteVals (p.getD (p.length - 1) [])) := (b185.ext hx189)
      have b194 : Blk w188 g2 26 (byteVals d) := (b186.ext hx189)
      have b195 : Blk w188 g10 26 (byteVals (List.replicate 32 0)) := (b187.ext hx189)
      refine ⟨fun _ _ => ⟨(((Ext.refl w143).trans hx181).trans hx189), b193, b194, b195⟩, ?_⟩
      refine any_one (i := 15) (by decide +kernel) rfl ?_
      refine o_store (cells := (byteVals (nodeD (p.getD (p.length - 1) []) (climbL nodeD leafD d (a - (half n)) (n - (half n)) (p.take (p.length - 1)))))) hF191 rfl rfl rfl rfl (hF191.get rfl) (hF191.get rfl) b195 ((by kernel_rfl : (Tryd.prog.info? 26).map (·.size) = some 32).trans (congrArg some (byteVals_len (nodeD_len _ _)).symm)) ((byteVals_len (show List.length (List.replicate 32 0) = _ from List.length_replicate)).trans (byteVals_len (nodeD_len _ _)).symm) (byteVals_one _) ?_
      intro w196 b197 hg198; have z199 := hg198.size
      refine ⟨fun h => absurd h (by decide), ?_⟩
      refine any_nil (by decide +kernel) ?_
      refine hK142 _ _ ?_
      clear hK142
      have hF200 := ((((((((((hF191.nil.cons (hF191.get (t := 25) (v := (.bool (decide (((a : Nat) : Int) < ((half n : Nat) : Int))))) rfl)).cons (hF191.get (t := 10) (v := (.pointer (some ⟨g69, 0, none⟩))) rfl)).cons (hF191.get (t := 9) (v := (.int .i64 (half n : Nat))) rfl)).cons (hF191.get (t := 12) (v := (.bool (decide (((n : Nat) : Int) = (1 : Int))))) rfl)).cons (hF191.get (t := 8) (v := (.pointer (some ⟨g10, 0, none⟩))) rfl)).cons (hF191.get (t := 4) (v := (.pointer (some ⟨g2, 0, none⟩))) rfl)).cons (hF191.get (t := 3) (v := (.slice A p.length c)) rfl)).cons (hF191.get (t := 2) (v := (.int .i64 (n : Nat))) rfl)).cons (hF191.get (t := 1) (v := (.int .i64 (a : Nat))) rfl)).cons (hF191.get (t := 0) (v := (.agg (byteVals d).toArray)) rfl))
      clear hF191
      refine wp_ret ?_
      refine retC hF200 rfl rfl b197 Tryd.underlying26 rfl ((by kernel_rfl : (Tryd.prog.info? 26).map (·.size) = some 32).trans (congrArg some (byteVals_len (nodeD_len _ _)).symm)) ?_
      exact ⟨by rw [hcl179.1], ((((((((((Ext.refl w).trans hx5).trans hx13).trans hx45).trans hx72).grownN hg79 (by omega)).trans hx144).trans hx181).trans hx189).grownN hg198 (by omega))⟩

theorem rclimb_at (d : List UInt8) (a n : Int) (p : List (List UInt8)) (w : World) {m : Nat} {v : Value} (hd : d.length = 32) (h32 : All32 p) (hf : Fl S w 32 v m (digVals p)) (hp : p.length = (dirs a.toNat n.toNat).length) (h0 : 0 ≤ a) (h1 : a < n) (h2 : n ≤ 4611686018427387904) :
    Calls Tryd.prog 36 #[.agg (byteVals d).toArray, .int .i64 a, .int .i64 n, v] w (fun e w' => e = .returned (.agg (byteVals (climbL nodeD leafD d a.toNat n.toNat p)).toArray) ∧ Ext w w') := by
  obtain ⟨an, rfl⟩ : ∃ an : Nat, a = (an : Int) := ⟨a.toNat, by omega⟩
  obtain ⟨nn, rfl⟩ : ∃ nn : Nat, n = (nn : Int) := ⟨n.toNat, by omega⟩
  exact rclimb_ind d hd _ an nn p S w h32 hf hp (by omega) (by omega) (Nat.lt_succ_self _)

set_option maxRecDepth 100000 in
set_option maxHeartbeats 1000000 in
theorem rClimb_any (d : List UInt8) (at_ n : Int) (A : Option Addr) (c : Nat) (p : List (List UInt8)) (w : World) (hd : d.length = 32) (h32 : All32 p) (hf : Fl S w 32 (.slice A p.length c) p.length (digVals p)) :
    Calls Tryd.prog 22 #[.agg (byteVals d).toArray, .int .i64 at_, .int .i64 n, .slice A p.length c] w (fun e w' => e = .returned (.tuple #[.agg (byteVals (climbF d at_ n p).1).toArray, .int .i64 (climbF d at_ n p).2]) ∧ Ext w w') := by
  have hc : Fl (Clip S w) w 32 (.slice A p.length c) p.length (digVals p) := hf.clip
  have hcc := (Fl.cel hc).2.1
  refine calls_enter (l := [(.agg (byteVals d).toArray), (.int .i64 at_), (.int .i64 n), (.slice A p.length c)]) Tryd.func22 rfl rfl rfl (fun aA hF => ?_)
  refine wp_seq_k (fun K1 hK1 => ?_)
  refine wp_region_lit ?_
  refine wpl_op (i := 0) rfl (o_new (fun g => (.pointer (some ⟨g, 0, none⟩))) (byteVals d) 26 hF rfl rfl rfl rfl (rn_box (hF.get rfl) (box_arr _)) ?_)
  intro g2 w3 a8 hF9 z6 z7 b4 hx5; clear hF
  refine wpl_op (i := 1) rfl (o_new (fun g => (.pointer (some ⟨g, 0, none⟩))) (byteVals (List.replicate 32 0)) 26 hF9 rfl rfl rfl rfl (by kernel_rfl) ?_)
  intro g10 w11 a16 hF17 z14 z15 b12 hx13; clear hF9
  refine wpl_op (i := 2) rfl (o_val (v := (.int .i64 0)) hF17 rfl rfl rfl rfl (rn_assign rfl) ?_)
  intro a18 hF19; clear hF17
  refine wpList_nil ?_
  refine hK1 _ _ ?_
  clear hK1
  refine wp_seq_k (fun K20 hK20 => ?_)
  refine wp_seq_k (fun K21 hK21 => ?_)
  refine wp_region_lit ?_
  refine wpl_op (i := 0) rfl (o_val (v := (.int .i64 n)) hF19 rfl rfl rfl rfl (rn_move (hF19.get rfl)) ?_)
  intro a22 hF23; clear hF19
  refine wpl_op (i := 1) rfl (o_val (v := (.bool (decide ((n : Int) < (1 : Int))))) hF23 rfl rfl rfl rfl (rn_lss (hF23.get rfl) rfl) ?_)
  intro a24 hF25; clear hF23
  refine wpl_op (i := 2) rfl (o_val (v := (.bool (decide ((n : Int) < (1 : Int))))) hF25 rfl rfl rfl rfl (rn_move (hF25.get rfl)) ?_)
  intro a26 hF27; clear hF25
  by_cases hc28 : (n : Int) < (1 : Int)
  · skip
    refine wpl_op (i := 3) rfl (o_skip hF27 rfl (unwanted_guard rfl rfl rfl hF27 rfl (decide_eq_true hc28) rfl) rfl rfl ?_)
    intro a29 hF30; clear hF27
    refine wpl_op (i := 4) rfl (o_skip hF30 rfl (unwanted_guard rfl rfl rfl hF30 rfl (decide_eq_true hc28) rfl) rfl rfl ?_)
    intro a31 hF32; clear hF30
    refine wpl_op (i := 5) rfl (o_val (v := (.bool true)) hF32 rfl rfl rfl rfl (rn_pickT (c_true hF32 rfl (decide_eq_true hc28)) rfl) ?_)
    intro a33 hF34; clear hF32
    refine wpl_op (i := 6) rfl (o_val (v := (.bool true)) hF34 rfl rfl rfl rfl (rn_move (hF34.get rfl)) ?_)
    intro a35 hF36; clear hF34
    refine wpl_op (i := 7) rfl (o_skip hF36 rfl (unwanted_guard rfl rfl rfl hF36 rfl rfl rfl) rfl rfl ?_)
    intro a37 hF38; clear hF36
    refine wpl_op (i := 8) rfl (o_skip hF38 rfl (unwanted_guard rfl rfl rfl hF38 rfl rfl rfl) rfl rfl ?_)
    intro a39 hF40; clear hF38
    refine wpl_op (i := 9) rfl (o_val (v := (.bool true)) hF40 rfl rfl rfl rfl (rn_pickT (c_true hF40 rfl rfl) rfl) ?_)
    intro a41 hF42; clear hF40
    refine wpl_op (i := 10) rfl (o_val (v := (.bool true)) hF42 rfl rfl rfl rfl (rn_move (hF42.get rfl)) ?_)
    intro a43 hF44; clear hF42
    refine wpl_op (i := 11) rfl (o_skip hF44 rfl (unwanted_guard rfl rfl rfl hF44 rfl rfl rfl) rfl rfl ?_)
    intro a45 hF46; clear hF44
    refine wpl_op (i := 12) rfl (o_skip hF46 rfl (unwanted_guard rfl rfl rfl hF46 rfl rfl rfl) rfl rfl ?_)
    intro a47 hF48; clear hF46
    refine wpl_op (i := 13) rfl (o_skip hF48 rfl (unwanted_guard rfl rfl rfl hF48 rfl rfl rfl) rfl rfl ?_)
    intro a49 hF50; clear hF48
    refine wpl_op (i := 14) rfl (o_val (v := (.bool true)) hF50 rfl rfl rfl rfl (rn_pickT (c_true hF50 rfl rfl) rfl) ?_)
    intro a51 hF52; clear hF50
    refine wpl_op (i := 15) rfl (o_val (v := (.bool true)) hF52 rfl rfl rfl rfl (rn_move (hF52.get rfl)) ?_)
    intro a53 hF54; clear hF52
    refine wpl_op (i := 16) rfl (o_skip hF54 rfl (unwanted_guard rfl rfl rfl hF54 rfl rfl rfl) rfl rfl ?_)
    intro a55 hF56; clear hF54
    refine wpl_op (i := 17) rfl (o_skip hF56 rfl (unwanted_guard rfl rfl rfl hF56 rfl rfl rfl) rfl rfl ?_)
    intro a57 hF58; clear hF56
    refine wpl_op (i := 18) rfl (o_skip hF58 rfl (unwanted_guard rfl rfl rfl hF58 rfl rfl rfl) rfl rfl ?_)
    intro a59 hF60; clear hF58
    refine wpl_op (i := 19) rfl (o_skip hF60 rfl (unwanted_guard rfl rfl rfl hF60 rfl rfl rfl) rfl rfl ?_)
    intro a61 hF62; clear hF60
    refine wpl_op (i := 20) rfl (o_skip hF62 rfl (unwanted_guard rfl rfl rfl hF62 rfl rfl rfl) rfl rfl ?_)
    intro a63 hF64; clear hF62
    refine wpl_op (i := 21) rfl (o_skip hF64 rfl (unwanted_guard rfl rfl rfl hF64 rfl rfl rfl) rfl rfl ?_)
    intro a65 hF66; clear hF64
    refine wpl_op (i := 22) rfl (o_val (v := (.bool true)) hF66 rfl rfl rfl rfl (rn_pickT (c_true hF66 rfl rfl) rfl) ?_)
    intro a67 hF68; clear hF66
    refine wpList_nil ?_
    refine hK21 _ _ ?_
    clear hK21
    have hF69 := ((((((((hF68.nil.cons (hF68.get (t := 32) (v := (.bool true)) rfl)).cons (hF68.get (t := 9) (v := (.int .i64 0)) rfl)).cons (hF68.get (t := 8) (v := (.pointer (some ⟨g10, 0, none⟩))) rfl)).cons (hF68.get (t := 4) (v := (.pointer (some ⟨g2, 0, none⟩))) rfl)).cons (hF68.get (t := 3) (v := (.slice A p.length c)) rfl)).cons (hF68.get (t := 2) (v := (.int .i64 n)) rfl)).cons (hF68.get (t := 1) (v := (.int .i64 at_)) rfl)).cons (hF68.get (t := 0) (v := (.agg (byteVals d).toArray)) rfl))
    clear hF68
    refine wp_cond_true (c_true hF69 rfl rfl) ?_
    refine wp_seq_k (fun K70 hK70 => ?_)
    refine wp_region_lit ?_
    refine wpl_op (i := 0) rfl (o_val (v := (.agg (byteVals (List.replicate 32 0)).toArray)) hF69 rfl rfl rfl rfl (rn_build parts0 (by kernel_rfl)) ?_)
    intro a71 hF72; clear hF69
    refine wpl_op (i := 1) rfl (o_store (cells := (byteVals (List.replicate 32 0))) hF72 rfl rfl rfl rfl (hF72.get rfl) (hF72.get rfl) b12 ((by kernel_rfl : (Tryd.prog.info? 26).map (·.size) = some 32).trans (congrArg some (byteVals_len (show List.length (List.replicate 32 0) = _ from List.length_replicate)).symm)) ((byteVals_len (show List.length (List.replicate 32 0) = _ from List.length_replicate)).trans (byteVals_len (show List.length (List.replicate 32 0) = _ from List.length_replicate)).symm) (byteVals_one _) ?_)
    intro w73 b74 hg75; have z76 := hg75.size
    refine wpl_op (i := 2) rfl (o_val (v := (.int .i64 1)) hF72 rfl rfl rfl rfl (rn_assign rfl) ?_)
    intro a77 hF78; clear hF72
    refine wpList_nil ?_
    refine hK70 _ _ ?_
    clear hK70
    refine wp_ret ?_
    refine ret_then ?_
    refine retC1 hF78 rfl rfl rfl b74 Tryd.underlying26 rfl ((by kernel_rfl : (Tryd.prog.info? 26).map (·.size) = some 32).trans (congrArg some (byteVals_len (show List.length (List.replicate 32 0) = _ from List.length_replicate)).symm)) ?_
    have hcl : climbF d at_ n p = (zero32, 1) := by rw [climbF, if_pos (by omega)]
    exact ⟨by rw [hcl]; rfl, ((((Ext.refl w).trans hx5).trans hx13).grownN hg75 (by omega))⟩
  · skip
    refine wpl_op (i := 3) rfl (o_val (v := (.int .i64 n)) hF27 rfl (wanted_guard rfl rfl rfl hF27 rfl (decide_eq_false hc28) rfl) rfl rfl (rn_move (hF27.get rfl)) ?_)
    intro a79 hF80; clear hF27
    refine wpl_op (i := 4) rfl (o_val (v := (.bool (decide ((1099511627776 : Int) < (n : Int))))) hF80 rfl (wanted_guard rfl rfl rfl hF80 rfl (decide_eq_false hc28) rfl) rfl rfl (rn_gtr (hF80.get rfl) rfl) ?_)
    intro a81 hF82; clear hF80
    refine wpl_op (i := 5) rfl (o_val (v := (.bool (decide ((1099511627776 : Int) < (n : Int))))) hF82 rfl rfl rfl rfl (rn_pickF (c_false hF82 rfl (decide_eq_false hc28)) (hF82.get rfl)) ?_)
    intro a83 hF84; clear hF82
    refine wpl_op (i := 6) rfl (o_val (v := (.bool (decide ((1099511627776 : Int) < (n : Int))))) hF84 rfl rfl rfl rfl (rn_move (hF84.get rfl)) ?_)
    intro a85 hF86; clear hF84
    by_cases hc87 : (1099511627776 : Int) < (n : Int)
    · skip
      refine wpl_op (i := 7) rfl (o_skip hF86 rfl (unwanted_guard rfl rfl rfl hF86 rfl (decide_eq_true hc87) rfl) rfl rfl ?_)
      intro a88 hF89; clear hF86
      refine wpl_op (i := 8) rfl (o_skip hF89 rfl (unwanted_guard rfl rfl rfl hF89 rfl (decide_eq_true hc87) rfl) rfl rfl ?_)
      intro a90 hF91; clear hF89
      refine wpl_op (i := 9) rfl (o_val (v := (.bool true)) hF91 rfl rfl rfl rfl (rn_pickT (c_true hF91 rfl (decide_eq_true hc87)) rfl) ?_)
      intro a92 hF93; clear hF91
      refine wpl_op (i := 10) rfl (o_val (v := (.bool true)) hF93 rfl rfl rfl rfl (rn_move (hF93.get rfl)) ?_)
      intro a94 hF95; clear hF93
      refine wpl_op (i := 11) rfl (o_skip hF95 rfl (unwanted_guard rfl rfl rfl hF95 rfl rfl rfl) rfl rfl ?_)
      intro a96 hF97; clear hF95
      refine wpl_op (i := 12) rfl (o_skip hF97 rfl (unwanted_guard rfl rfl rfl hF97 rfl rfl rfl) rfl rfl ?_)
      intro a98 hF99; clear hF97
      refine wpl_op (i := 13) rfl (o_skip hF99 rfl (unwanted_guard rfl rfl rfl hF99 rfl rfl rfl) rfl rfl ?_)
      intro a100 hF101; clear hF99
      refine wpl_op (i := 14) rfl (o_val (v := (.bool true)) hF101 rfl rfl rfl rfl (rn_pickT (c_true hF101 rfl rfl) rfl) ?_)
      intro a102 hF103; clear hF101
      refine wpl_op (i := 15) rfl (o_val (v := (.bool true)) hF103 rfl rfl rfl rfl (rn_move (hF103.get rfl)) ?_)
      intro a104 hF105; clear hF103
      refine wpl_op (i := 16) rfl (o_skip hF105 rfl (unwanted_guard rfl rfl rfl hF105 rfl rfl rfl) rfl rfl ?_)
      intro a106 hF107; clear hF105
      refine wpl_op (i := 17) rfl (o_skip hF107 rfl (unwanted_guard rfl rfl rfl hF107 rfl rfl rfl) rfl rfl ?_)
      intro a108 hF109; clear hF107
      refine wpl_op (i := 18) rfl (o_skip hF109 rfl (unwanted_guard rfl rfl rfl hF109 rfl rfl rfl) rfl rfl ?_)
      intro a110 hF111; clear hF109
      refine wpl_op (i := 19) rfl (o_skip hF111 rfl (unwanted_guard rfl rfl rfl hF111 rfl rfl rfl) rfl rfl ?_)
      intro a112 hF113; clear hF111
      refine wpl_op (i := 20) rfl (o_skip hF113 rfl (unwanted_guard rfl rfl rfl hF113 rfl rfl rfl) rfl rfl ?_)
      intro a114 hF115; clear hF113
      refine wpl_op (i := 21) rfl (o_skip hF115 rfl (unwanted_guard rfl rfl rfl hF115 rfl rfl rfl) rfl rfl ?_)
      intro a116 hF117; clear hF115
      refine wpl_op (i := 22) rfl (o_val (v := (.bool true)) hF117 rfl rfl rfl rfl (rn_pickT (c_true hF117 rfl rfl) rfl) ?_)
      intro a118 hF119; clear hF117
      refine wpList_nil ?_
      refine hK21 _ _ ?_
      clear hK21
      have hF120 := ((((((((hF119.nil.cons (hF119.get (t := 32) (v := (.bool true)) rfl)).cons (hF119.get (t := 9) (v := (.int .i64 0)) rfl)).cons (hF119.get (t := 8) (v := (.pointer (some ⟨g10, 0, none⟩))) rfl)).cons (hF119.get (t := 4) (v := (.pointer (some ⟨g2, 0, none⟩))) rfl)).cons (hF119.get (t := 3) (v := (.slice A p.length c)) rfl)).cons (hF119.get (t := 2) (v := (.int .i64 n)) rfl)).cons (hF119.get (t := 1) (v := (.int .i64 at_)) rfl)).cons (hF119.get (t := 0) (v := (.agg (byteVals d).toArray)) rfl))
      clear hF119
      refine wp_cond_true (c_true hF120 rfl rfl) ?_
      refine wp_seq_k (fun K121 hK121 => ?_)
      refine wp_region_lit ?_
      refine wpl_op (i := 0) rfl (o_val (v := (.agg (byteVals (List.replicate 32 0)).toArray)) hF120 rfl rfl rfl rfl (rn_build parts0 (by kernel_rfl)) ?_)
      intro a122 hF123; clear hF120
      refine wpl_op (i := 1) rfl (o_store (cells := (byteVals (List.replicate 32 0))) hF123 rfl rfl rfl rfl (hF123.get rfl) (hF123.get rfl) b12 ((by kernel_rfl : (Tryd.prog.info? 26).map (·.size) = some 32).trans (congrArg some (byteVals_len (show List.length (List.replicate 32 0) = _ from List.length_replicate)).symm)) ((byteVals_len (show List.length (List.replicate 32 0) = _ from List.length_replicate)).trans (byteVals_len (show List.length (List.replicate 32 0) = _ from List.length_replicate)).symm) (byteVals_one _) ?_)
      intro w124 b125 hg126; have z127 := hg126.size
      refine wpl_op (i := 2) rfl (o_val (v := (.int .i64 1)) hF123 rfl rfl rfl rfl (rn_assign rfl) ?_)
      intro a128 hF129; clear hF123
      refine wpList_nil ?_
      refine hK121 _ _ ?_
      clear hK121
      refine wp_ret ?_
      refine ret_then ?_
      refine retC1 hF129 rfl rfl rfl b125 Tryd.underlying26 rfl ((by kernel_rfl : (Tryd.prog.info? 26).map (·.size) = some 32).trans (congrArg some (byteVals_len (show List.length (List.replicate 32 0) = _ from List.length_replicate)).symm)) ?_
      have hcl : climbF d at_ n p = (zero32, 1) := by rw [climbF, if_pos (by omega)]
      exact ⟨by rw [hcl]; rfl, ((((Ext.refl w).trans hx5).trans hx13).grownN hg126 (by omega))⟩
    · skip
      refine wpl_op (i := 7) rfl (o_val (v := (.int .i64 at_)) hF86 rfl (wanted_guard rfl rfl rfl hF86 rfl (decide_eq_false hc87) rfl) rfl rfl (rn_move (hF86.get rfl)) ?_)
      intro a130 hF131; clear hF86
      refine wpl_op (i := 8) rfl (o_val (v := (.bool (decide ((at_ : Int) < (0 : Int))))) hF131 rfl (wanted_guard rfl rfl rfl hF131 rfl (decide_eq_false hc87) rfl) rfl rfl (rn_lss (hF131.get rfl) rfl) ?_)
      intro a132 hF133; clear hF131
      refine wpl_op (i := 9) rfl (o_val (v := (.bool (decide ((at_ : Int) < (0 : Int))))) hF133 rfl rfl rfl rfl (rn_pickF (c_false hF133 rfl (decide_eq_false hc87)) (hF133.get rfl)) ?_)
      intro a134 hF135; clear hF133
      refine wpl_op (i := 10) rfl (o_val (v := (.bool (decide ((at_ : Int) < (0 : Int))))) hF135 rfl rfl rfl rfl (rn_move (hF135.get rfl)) ?_)
      intro a136 hF137; clear hF135
      by_cases hc138 : (at_ : Int) < (0 : Int)
      · skip
        refine wpl_op (i := 11) rfl (o_skip hF137 rfl (unwanted_guard rfl rfl rfl hF137 rfl (decide_eq_true hc138) rfl) rfl rfl ?_)
        intro a139 hF140; clear hF137
        refine wpl_op (i := 12) rfl (o_skip hF140 rfl (unwanted_guard rfl rfl rfl hF140 rfl (decide_eq_true hc138) rfl) rfl rfl ?_)
        intro a141 hF142; clear hF140
        refine wpl_op (i := 13) rfl (o_skip hF142 rfl (unwanted_guard rfl rfl rfl hF142 rfl (decide_eq_true hc138) rfl) rfl rfl ?_)
        intro a143 hF144; clear hF142
        refine wpl_op (i := 14) rfl (o_val (v := (.bool true)) hF144 rfl rfl rfl rfl (rn_pickT (c_true hF144 rfl (decide_eq_true hc138)) rfl) ?_)
        intro a145 hF146; clear hF144
        refine wpl_op (i := 15) rfl (o_val (v := (.bool true)) hF146 rfl rfl rfl rfl (rn_move (hF146.get rfl)) ?_)
        intro a147 hF148; clear hF146
        refine wpl_op (i := 16) rfl (o_skip hF148 rfl (unwanted_guard rfl rfl rfl hF148 rfl rfl rfl) rfl rfl ?_)
        intro a149 hF150; clear hF148
        refine wpl_op (i := 17) rfl (o_skip hF150 rfl (unwanted_guard rfl rfl rfl hF150 rfl rfl rfl) rfl rfl ?_)
        intro a151 hF152; clear hF150
        refine wpl_op (i := 18) rfl (o_skip hF152 rfl (unwanted_guard rfl rfl rfl hF152 rfl rfl rfl) rfl rfl ?_)
        intro a153 hF154; clear hF152
        refine wpl_op (i := 19) rfl (o_skip hF154 rfl (unwanted_guard rfl rfl rfl hF154 rfl rfl rfl) rfl rfl ?_)
        intro a155 hF156; clear hF154
        refine wpl_op (i := 20) rfl (o_skip hF156 rfl (unwanted_guard rfl rfl rfl hF156 rfl rfl rfl) rfl rfl ?_)
        intro a157 hF158; clear hF156
        refine wpl_op (i := 21) rfl (o_skip hF158 rfl (unwanted_guard rfl rfl rfl hF158 rfl rfl rfl) rfl rfl ?_)
        intro a159 hF160; clear hF158
        refine wpl_op (i := 22) rfl (o_val (v := (.bool true)) hF160 rfl rfl rfl rfl (rn_pickT (c_true hF160 rfl rfl) rfl) ?_)
        intro a161 hF162; clear hF160
        refine wpList_nil ?_
        refine hK21 _ _ ?_
        clear hK21
        have hF163 := ((((((((hF162.nil.cons (hF162.get (t := 32) (v := (.bool true)) rfl)).cons (hF162.get (t := 9) (v := (.int .i64 0)) rfl)).cons (hF162.get (t := 8) (v := (.pointer (some ⟨g10, 0, none⟩))) rfl)).cons (hF162.get (t := 4) (v := (.pointer (some ⟨g2, 0, none⟩))) rfl)).cons (hF162.get (t := 3) (v := (.slice A p.length c)) rfl)).cons (hF162.get (t := 2) (v := (.int .i64 n)) rfl)).cons (hF162.get (t := 1) (v := (.int .i64 at_)) rfl)).cons (hF162.get (t := 0) (v := (.agg (byteVals d).toArray)) rfl))
        clear hF162
        refine wp_cond_true (c_true hF163 rfl rfl) ?_
        refine wp_seq_k (fun K164 hK164 => ?_)
        refine wp_region_lit ?_
        refine wpl_op (i := 0) rfl (o_val (v := (.agg (byteVals (List.replicate 32 0)).toArray)) hF163 rfl rfl rfl rfl (rn_build parts0 (by kernel_rfl)) ?_)
        intro a165 hF166; clear hF163
        refine wpl_op (i := 1) rfl (o_store (cells := (byteVals (List.replicate 32 0))) hF166 rfl rfl rfl rfl (hF166.get rfl) (hF166.get rfl) b12 ((by kernel_rfl : (Tryd.prog.info? 26).map (·.size) = some 32).trans (congrArg some (byteVals_len (show List.length (List.replicate 32 0) = _ from List.length_replicate)).symm)) ((byteVals_len (show List.length (List.replicate 32 0) = _ from List.length_replicate)).trans (byteVals_len (show List.length (List.replicate 32 0) = _ from List.length_replicate)).symm) (byteVals_one _) ?_)
        intro w167 b168 hg169; have z170 := hg169.size
        refine wpl_op (i := 2) rfl (o_val (v := (.int .i64 1)) hF166 rfl rfl rfl rfl (rn_assign rfl) ?_)
        intro a171 hF172; clear hF166
        refine wpList_nil ?_
        refine hK164 _ _ ?_
        clear hK164
        refine wp_ret ?_
        refine ret_then ?_
        refine retC1 hF172 rfl rfl rfl b168 Tryd.underlying26 rfl ((by kernel_rfl : (Tryd.prog.info? 26).map (·.size) = some 32).trans (congrArg some (byteVals_len (show List.length (List.replicate 32 0) = _ from List.length_replicate)).symm)) ?_
        have hcl : climbF d at_ n p = (zero32, 1) := by rw [climbF, if_pos (by omega)]
        exact ⟨by rw [hcl]; rfl, ((((Ext.refl w).trans hx5).trans hx13).grownN hg169 (by omega))⟩
      · skip
        refine wpl_op (i := 11) rfl (o_val (v := (.int .i64 at_)) hF137 rfl (wanted_guard rfl rfl rfl hF137 rfl (decide_eq_false hc138) rfl) rfl rfl (rn_move (hF137.get rfl)) ?_)
        intro a173 hF174; clear hF137
        refine wpl_op (i := 12) rfl (o_val (v := (.int .i64 n)) hF174 rfl (wanted_guard rfl rfl rfl hF174 rfl (decide_eq_false hc138) rfl) rfl rfl (rn_move (hF174.get rfl)) ?_)
        intro a175 hF176; clear hF174
        refine wpl_op (i := 13) rfl (o_val (v := (.bool (decide ((n : Int) ≤ (at_ : Int))))) hF176 rfl (wanted_guard rfl rfl rfl hF176 rfl (decide_eq_false hc138) rfl) rfl rfl (rn_geq (hF176.get rfl) (hF176.get rfl)) ?_)
        intro a177 hF178; clear hF176
        refine wpl_op (i := 14) rfl (o_val (v := (.bool (decide ((n : Int) ≤ (at_ : Int))))) hF178 rfl rfl rfl rfl (rn_pickF (c_false hF178 rfl (decide_eq_false hc138)) (hF178.get rfl)) ?_)
        intro a179 hF180; clear hF178
        refine wpl_op (i := 15) rfl (o_val (v := (.bool (decide ((n : Int) ≤ (at_ : Int))))) hF180 rfl rfl rfl rfl (rn_move (hF180.get rfl)) ?_)
        intro a181 hF182; clear hF180
        by_cases hc183 : (n : Int) ≤ (at_ : Int)
        · skip
          refine wpl_op (i := 16) rfl (o_skip hF182 rfl (unwanted_guard rfl rfl rfl hF182 rfl (decide_eq_true hc183) rfl) rfl rfl ?_)
          intro a184 hF185; clear hF182
          refine wpl_op (i := 17) rfl (o_skip hF185 rfl (unwanted_guard rfl rfl rfl hF185 rfl (decide_eq_true hc183) rfl) rfl rfl ?_)
          intro a186 hF187; clear hF185
          refine wpl_op (i := 18) rfl (o_skip hF187 rfl (unwanted_guard rfl rfl rfl hF187 rfl (decide_eq_true hc183) rfl) rfl rfl ?_)
          intro a188 hF189; clear hF187
          refine wpl_op (i := 19) rfl (o_skip hF189 rfl (unwanted_guard rfl rfl rfl hF189 rfl (decide_eq_true hc183) rfl) rfl rfl ?_)
          intro a190 hF191; clear hF189
          refine wpl_op (i := 20) rfl (o_skip hF191 rfl (unwanted_guard rfl rfl rfl hF191 rfl (decide_eq_true hc183) rfl) rfl rfl ?_)
          intro a192 hF193; clear hF191
          refine wpl_op (i := 21) rfl (o_skip hF193 rfl (unwanted_guard rfl rfl rfl hF193 rfl (decide_eq_true hc183) rfl) rfl rfl ?_)
          intro a194 hF195; clear hF193
          refine wpl_op (i := 22) rfl (o_val (v := (.bool true)) hF195 rfl rfl rfl rfl (rn_pickT (c_true hF195 rfl (decide_eq_true hc183)) rfl) ?_)
          intro a196 hF197; clear hF195
          refine wpList_nil ?_
          refine hK21 _ _ ?_
          clear hK21
          have hF198 := ((((((((hF197.nil.cons (hF197.get (t := 32) (v := (.bool true)) rfl)).cons (hF197.get (t := 9) (v := (.int .i64 0)) rfl)).cons (hF197.get (t := 8) (v := (.pointer (some ⟨g10, 0, none⟩))) rfl)).cons (hF197.get (t := 4) (v := (.pointer (some ⟨g2, 0, none⟩))) rfl)).cons (hF197.get (t := 3) (v := (.slice A p.length c)) rfl)).cons (hF197.get (t := 2) (v := (.int .i64 n)) rfl)).cons (hF197.get (t := 1) (v := (.int .i64 at_)) rfl)).cons (hF197.get (t := 0) (v := (.agg (byteVals d).toArray)) rfl))
          clear hF197
          refine wp_cond_true (c_true hF198 rfl rfl) ?_
          refine wp_seq_k (fun K199 hK199 => ?_)
          refine wp_region_lit ?_
          refine wpl_op (i := 0) rfl (o_val (v := (.agg (byteVals (List.replicate 32 0)).toArray)) hF198 rfl rfl rfl rfl (rn_build parts0 (by kernel_rfl)) ?_)
          intro a200 hF201; clear hF198
          refine wpl_op (i := 1) rfl (o_store (cells := (byteVals (List.replicate 32 0))) hF201 rfl rfl rfl rfl (hF201.get rfl) (hF201.get rfl) b12 ((by kernel_rfl : (Tryd.prog.info? 26).map (·.size) = some 32).trans (congrArg some (byteVals_len (show List.length (List.replicate 32 0) = _ from List.length_replicate)).symm)) ((byteVals_len (show List.length (List.replicate 32 0) = _ from List.length_replicate)).trans (byteVals_len (show List.length (List.replicate 32 0) = _ from List.length_replicate)).symm) (byteVals_one _) ?_)
          intro w202 b203 hg204; have z205 := hg204.size
          refine wpl_op (i := 2) rfl (o_val (v := (.int .i64 1)) hF201 rfl rfl rfl rfl (rn_assign rfl) ?_)
          intro a206 hF207; clear hF201
          refine wpList_nil ?_
          refine hK199 _ _ ?_
          clear hK199
          refine wp_ret ?_
          refine ret_then ?_
          refine retC1 hF207 rfl rfl rfl b203 Tryd.underlying26 rfl ((by kernel_rfl : (Tryd.prog.info? 26).map (·.size) = some 32).trans (congrArg some (byteVals_len (show List.length (List.replicate 32 0) = _ from List.length_replicate)).symm)) ?_
          have hcl : climbF d at_ n p = (zero32, 1) := by rw [climbF, if_pos (by omega)]
          exact ⟨by rw [hcl]; rfl, ((((Ext.refl w).trans hx5).trans hx13).grownN hg204 (by omega))⟩
        · skip
          refine wpl_op (i := 16) rfl (o_val (v := (.slice A p.length c)) hF182 rfl (wanted_guard rfl rfl rfl hF182 rfl (decide_eq_false hc183) rfl) rfl rfl (rn_move (hF182.get rfl)) ?_)
          intro a208 hF209; clear hF182
          refine wpl_op (i := 17) rfl (o_val (v := (.int .i64 (p.length : Nat))) hF209 rfl (wanted_guard rfl rfl rfl hF209 rfl (decide_eq_false hc183) rfl) rfl rfl (rn_len_slice Tryd.underlying30 (hF209.get rfl)) ?_)
          intro a210 hF211; clear hF209
          refine wpl_op (i := 18) rfl (o_val (v := (.int .i64 at_)) hF211 rfl (wanted_guard rfl rfl rfl hF211 rfl (decide_eq_false hc183) rfl) rfl rfl (rn_move (hF211.get rfl)) ?_)
          intro a212 hF213; clear hF211
          refine wpl_op (i := 19) rfl (o_val (v := (.int .i64 n)) hF213 rfl (wanted_guard rfl rfl rfl hF213 rfl (decide_eq_false hc183) rfl) rfl rfl (rn_move (hF213.get rfl)) ?_)
          intro a214 hF215; clear hF213
          refine wpl_op (i := 20) rfl (o_call hF215 rfl (wanted_guard rfl rfl rfl hF215 rfl (decide_eq_false hc183) rfl) rfl rfl (rn_call (args2 (hF215.get rfl) (hF215.get rfl)) rfl (by kernel_rfl)) (rlength_at at_ n _ (by omega) (by omega) (by omega)) ?_)
          rintro _ w216 ⟨rfl, hx217⟩
          refine ⟨_, rfl, ?_⟩; intro a218 hF219; clear hF215; have z220 := hx217.size
          refine wpl_op (i := 21) rfl (o_val (v := (.bool (decide (((p.length : Nat) : Int) ≠ (((dirs at_.toNat n.toNat).length : Nat) : Int))))) hF219 rfl (wanted_guard rfl rfl rfl hF219 rfl (decide_eq_false hc183) rfl) rfl rfl (rn_neq (hF219.get rfl) (hF219.get rfl)) ?_)
          intro a221 hF222; clear hF219
          refine wpl_op (i := 22) rfl (o_val (v := (.bool (decide (((p.length : Nat) : Int) ≠ (((dirs at_.toNat n.toNat).length : Nat) : Int))))) hF222 rfl rfl rfl rfl (rn_pickF (c_false hF222 rfl (decide_eq_false hc183)) (hF222.get rfl)) ?_)
          intro a223 hF224; clear hF222
          refine wpList_nil ?_
          refine hK21 _ _ ?_
          clear hK21
          have hF225 := ((((((((hF224.nil.cons (hF224.get (t := 32) (v := (.bool (decide (((p.length : Nat) : Int) ≠ (((dirs at_.toNat n.toNat).length : Nat) : Int))))) rfl)).cons (hF224.get (t := 9) (v := (.int .i64 0)) rfl)).cons (hF224.get (t := 8) (v := (.pointer (some ⟨g10, 0, none⟩))) rfl)).cons (hF224.get (t := 4) (v := (.pointer (some ⟨g2, 0, none⟩))) rfl)).cons (hF224.get (t := 3) (v := (.slice A p.length c)) rfl)).cons (hF224.get (t := 2) (v := (.int .i64 n)) rfl)).cons (hF224.get (t := 1) (v := (.int .i64 at_)) rfl)).cons (hF224.get (t := 0) (v := (.agg (byteVals d).toArray)) rfl))
          clear hF224
          by_cases hc226 : ((p.length : Nat) : Int) ≠ (((dirs at_.toNat n.toNat).length : Nat) : Int)
          · skip
            refine wp_cond_true (c_true hF225 rfl (decide_eq_true hc226)) ?_
            refine wp_seq_k (fun K227 hK227 => ?_)
            refine wp_region_lit ?_
            refine wpl_op (i := 0) rfl (o_val (v := (.agg (byteVals (List.replicate 32 0)).toArray)) hF225 rfl rfl rfl rfl (rn_build parts0 (by kernel_rfl)) ?_)
            intro a228 hF229; clear hF225
            have b233 : Blk w216 g10 26 (byteVals (List.replicate 32 0)) := (b12.ext hx217)
            refine wpl_op (i := 1) rfl (o_store (cells := (byteVals (List.replicate 32 0))) hF229 rfl rfl rfl rfl (hF229.get rfl) (hF229.get rfl) b233 ((by kernel_rfl : (Tryd.prog.info? 26).map (·.size) = some 32).trans (congrArg some (byteVals_len (show List.length (List.replicate 32 0) = _ from List.length_replicate)).symm)) ((byteVals_len (show List.length (List.replicate 32 0) = _ from List.length_replicate)).trans (byteVals_len (show List.length (List.replicate 32 0) = _ from List.length_replicate)).symm) (byteVals_one _) ?_)
            intro w230 b231 hg232; have z234 := hg232.size
            refine wpl_op (i := 2) rfl (o_val (v := (.int .i64 1)) hF229 rfl rfl rfl rfl (rn_assign rfl) ?_)
            intro a235 hF236; clear hF229
            refine wpList_nil ?_
            refine hK227 _ _ ?_
            clear hK227
            refine wp_ret ?_
            refine ret_then ?_
            refine retC1 hF236 rfl rfl rfl b231 Tryd.underlying26 rfl ((by kernel_rfl : (Tryd.prog.info? 26).map (·.size) = some 32).trans (congrArg some (byteVals_len (show List.length (List.replicate 32 0) = _ from List.length_replicate)).symm)) ?_
            have hcl : climbF d at_ n p = (zero32, 1) := by rw [climbF, if_pos (by omega)]
            exact ⟨by rw [hcl]; rfl, (((((Ext.refl w).trans hx5).trans hx13).trans hx217).grownN hg232 (by omega))⟩
          · skip
            refine wp_cond_false (c_false hF225 rfl (decide_eq_false hc226)) ?_
            refine wp_skip ?_
            refine hK20 _ _ ?_
            clear hK20
            refine wp_seq_k (fun K237 hK237 => ?_)
            refine wp_region_lit ?_
            have b238 : Blk w216 g2 26 (byteVals d) := ((b4.ext hx13).ext hx217)
            refine wpl_op (i := 0) rfl (o_val (v := (.agg (byteVals d).toArray)) hF225 rfl rfl rfl rfl (rn_loadBlk (hF225.get rfl) b238 Tryd.underlying26 rfl ((by kernel_rfl : (Tryd.prog.info? 26).map (·.size) = some 32).trans (congrArg some (byteVals_len hd).symm))) ?_)
            intro a239 hF240; clear hF225
            refine wpl_op (i := 1) rfl (o_val (v := (.int .i64 at_)) hF240 rfl rfl rfl rfl (rn_move (hF240.get rfl)) ?_)
            intro a241 hF242; clear hF240
            refine wpl_op (i := 2) rfl (o_val (v := (.int .i64 n)) hF242 rfl rfl rfl rfl (rn_move (hF242.get rfl)) ?_)
            intro a243 hF244; clear hF242
            refine wpl_op (i := 3) rfl (o_val (v := (.slice A p.length c)) hF244 rfl rfl rfl rfl (rn_move (hF244.get rfl)) ?_)
            intro a245 hF246; clear hF244
            have d247 := (((hc.ext hx5).ext hx13).ext hx217)
            refine wpl_op (i := 4) rfl (o_call hF246 rfl rfl rfl rfl (rn_call (args4 (hF246.get rfl) (hF246.get rfl) (hF246.get rfl) (hF246.get rfl)) rfl (by kernel_rfl)) (rclimb_at d at_ n p _ hd h32 d247 (by omega) (by omega) (by omega) (by omega)) ?_)
            rintro _ w248 ⟨rfl, hx249⟩
            refine ⟨_, rfl, ?_⟩; intro a250 hF251; clear hF246; have z252 := hx249.size
            have b256 : Blk w248 g10 26 (byteVals (List.replicate 32 0)) := ((b12.ext hx217).ext hx249)
            refine wpl_op (i := 5) rfl (o_store (cells := (byteVals (climbL nodeD leafD d at_.toNat n.toNat p))) hF251 rfl rfl rfl rfl (hF251.get rfl) (hF251.get rfl) b256 ((by kernel_rfl : (Tryd.prog.info? 26).map (·.size) = some 32).trans (congrArg some (byteVals_len (climbL_len _ _ _ _)).symm)) ((byteVals_len (show List.length (List.replicate 32 0) = _ from List.length_replicate)).trans (byteVals_len (climbL_len _ _ _ _)).symm) (byteVals_one _) ?_)
            intro w253 b254 hg255; have z257 := hg255.size
            refine wpl_op (i := 6) rfl (o_val (v := (.int .i64 0)) hF251 rfl rfl rfl rfl (rn_assign rfl) ?_)
            intro a258 hF259; clear hF251
            refine wpList_nil ?_
            refine hK237 _ _ ?_
            clear hK237
            have hF260 := ((((((((hF259.nil.cons (hF259.get (t := 32) (v := (.bool (decide (((p.length : Nat) : Int) ≠ (((dirs at_.toNat n.toNat).length : Nat) : Int))))) rfl)).cons (hF259.get (t := 9) (v := (.int .i64 0)) rfl)).cons (hF259.get (t := 8) (v := (.pointer (some ⟨g10, 0, none⟩))) rfl)).cons (hF259.get (t := 4) (v := (.pointer (some ⟨g2, 0, none⟩))) rfl)).cons (hF259.get (t := 3) (v := (.slice A p.length c)) rfl)).cons (hF259.get (t := 2) (v := (.int .i64 n)) rfl)).cons (hF259.get (t := 1) (v := (.int .i64 at_)) rfl)).cons (hF259.get (t := 0) (v := (.agg (byteVals d).toArray)) rfl))
            clear hF259
            refine wp_ret ?_
            refine retC1 hF260 rfl rfl rfl b254 Tryd.underlying26 rfl ((by kernel_rfl : (Tryd.prog.info? 26).map (·.size) = some 32).trans (congrArg some (byteVals_len (climbL_len _ _ _ _)).symm)) ?_
            have hcl : climbF d at_ n p = (climbL nodeD leafD d at_.toNat n.toNat p, 0) := by rw [climbF, if_neg (by omega)]
            exact ⟨by rw [hcl], ((((((Ext.refl w).trans hx5).trans hx13).trans hx217).trans hx249).grownN hg255 (by omega))⟩

theorem rClimb_at {v : Value} {m : Nat} (d : List UInt8) (at_ n : Int) (p : List (List UInt8)) (w : World) (hd : d.length = 32) (h32 : All32 p) (hf : Fl S w 32 v m (digVals p)) : Calls Tryd.prog 22 #[.agg (byteVals d).toArray, .int .i64 at_, .int .i64 n, v] w (fun e w' => e = .returned (.tuple #[.agg (byteVals (climbF d at_ n p).1).toArray, .int .i64 (climbF d at_ n p).2]) ∧ Ext w w') := by
  have hm := Fl.dlen hf h32
  subst hm
  obtain ⟨A, c, rfl, _⟩ := hf.form
  exact rClimb_any d at_ n A c p w hd h32 hf

set_option maxRecDepth 100000 in
set_option maxHeartbeats 1000000 in
theorem rsame_any {S2 : Nat → Prop} (A B : Option Addr) (c e : Nat) (a b : List (List UInt8)) (w : World) (h32a : All32 a) (h32b : All32 b) (ha : Fl S w 32 (.slice A a.length c) a.length (digVals a)) (hb : Fl S2 w 32 (.slice B b.length e) b.length (digVals b)) (hca : a.length ≤ 9223372036854775807) :
    Calls Tryd.prog 20 #[.slice A a.length c, .slice B b.length e] w (fun e w' => e = .returned (.bool (decide (a = b))) ∧ Ext w w') := by
  refine calls_enter (l := [(.slice A a.length c), (.slice B b.length e)]) Tryd.func20 rfl rfl rfl (fun aA hF => ?_)
  refine wp_seq_k (fun K1 hK1 => ?_)
  refine wp_region_lit ?_
  refine wpl_op (i := 0) rfl (o_val (v := (.bool false)) hF rfl rfl rfl rfl (rn_assign rfl) ?_)
  intro a2 hF3; clear hF
  refine wpList_nil ?_
  refine hK1 _ _ ?_
  clear hK1
  refine wp_seq_k (fun K4 hK4 => ?_)
  refine wp_seq_k (fun K5 hK5 => ?_)
  refine wp_region_lit ?_
  refine wpl_op (i := 0) rfl (o_val (v := (.slice A a.length c)) hF3 rfl rfl rfl rfl (rn_move (hF3.get rfl)) ?_)
  intro a6 hF7; clear hF3
  refine wpl_op (i := 1) rfl (o_val (v := (.int .i64 (a.length : Nat))) hF7 rfl rfl rfl rfl (rn_len_slice Tryd.underlying30 (hF7.get rfl)) ?_)
  intro a8 hF9; clear hF7
  refine wpl_op (i := 2) rfl (o_val (v := (.slice B b.length e)) hF9 rfl rfl rfl rfl (rn_move (hF9.get rfl)) ?_)
  intro a10 hF11; clear hF9
  refine wpl_op (i := 3) rfl (o_val (v := (.int .i64 (b.length : Nat))) hF11 rfl rfl rfl rfl (rn_len_slice Tryd.underlying30 (hF11.get rfl)) ?_)
  intro a12 hF13; clear hF11
  refine wpl_op (i := 4) rfl (o_val (v := (.bool (decide (((a.length : Nat) : Int) ≠ ((b.length : Nat) : Int))))) hF13 rfl rfl rfl rfl (rn_neq (hF13.get rfl) (hF13.get rfl)) ?_)
  intro a14 hF15; clear hF13
  refine wpList_nil ?_
  refine hK5 _ _ ?_
  clear hK5
  have hF16 := ((((hF15.nil.cons (hF15.get (t := 10) (v := (.bool (decide (((a.length : Nat) : Int) ≠ ((b.length : Nat) : Int))))) rfl)).cons (hF15.get (t := 4) (v := (.bool false)) rfl)).cons (hF15.get (t := 1) (v := (.slice B b.length e)) rfl)).cons (hF15.get (t := 0) (v := (.slice A a.length c)) rfl))
  clear hF15
  by_cases hc17 : ((a.length : Nat) : Int) ≠ ((b.length : Nat) : Int)
  · skip
    refine wp_cond_true (c_true hF16 rfl (decide_eq_true hc17)) ?_
    refine wp_seq_k (fun K18 hK18 => ?_)
    refine wp_region_lit ?_
    refine wpl_op (i := 0) rfl (o_val (v := (.bool false)) hF16 rfl rfl rfl rfl (rn_assign rfl) ?_)
    intro a19 hF20; clear hF16
    refine wpList_nil ?_
    refine hK18 _ _ ?_
    clear hK18
    refine wp_ret ?_
    refine ret_then ?_
    refine ret1 hF20 rfl rfl ?_
    have hab : a ≠ b := ne_of_len (by omega)
    exact ⟨by rw [decide_eq_false hab], (Ext.refl w)⟩
  · skip
    refine wp_cond_false (c_false hF16 rfl (decide_eq_false hc17)) ?_
    refine wp_skip ?_
    refine hK4 _ _ ?_
    clear hK4
    refine wp_seq_k (fun K21 hK21 => ?_)
    refine wp_seq_k (fun K22 hK22 => ?_)
    refine wp_region_lit ?_
    refine wpl_op (i := 0) rfl (o_val (v := (.int .i64 0)) hF16 rfl rfl rfl rfl (rn_assign rfl) ?_)
    intro a23 hF24; clear hF16
    refine wpList_nil ?_
    refine hK22 _ _ ?_
    clear hK22
    refine wp_block ?_
    refine wp_loop (fun a' W => ∃ (k : Nat), Sl 26 [(0, (.slice A a.length c)), (1, (.slice B b.length e)), (4, (.bool false)), (10, (.bool (decide (((a.length : Nat) : Int) ≠ ((b.length : Nat) : Int))))), (5, (.int .i64 (k : Nat)))] a' ∧ k ≤ a.length ∧ a.take k = b.take k ∧ Ext w W ∧ w.heap.size ≤ W.heap.size) (fun a' _ => a.length - (intOf (a'.eval (.tmp 5))).toNat) ⟨0, (((((hF24.nil.cons (q_get hF24 (t := 5) rfl (by first | rfl | (congr 1; omega) | (congr 1; done)))).cons (q_get hF24 (t := 10) rfl rfl)).cons (q_get hF24 (t := 4) rfl rfl)).cons (q_get hF24 (t := 1) rfl rfl)).cons (q_get hF24 (t := 0) rfl rfl)), (by omega), rfl, (Ext.refl w), (Nat.le_refl _)⟩ ?_
    clear hF24
    rintro a25 w26 ⟨k, hF27, hp29, hp30, hx28, hf31⟩
    have hL32 := hF27
    have z33 := hx28.size
    refine wp_seq_k (fun K34 hK34 => ?_)
    refine wp_seq_k (fun K35 hK35 => ?_)
    refine wp_region_lit ?_
    refine wpl_op (i := 0) rfl (o_val (v := (.int .i64 (k : Nat))) hF27 rfl rfl rfl rfl (rn_move (hF27.get rfl)) ?_)
    intro a36 hF37; clear hF27
    refine wpl_op (i := 1) rfl (o_val (v := (.slice A a.length c)) hF37 rfl rfl rfl rfl (rn_move (hF37.get rfl)) ?_)
    intro a38 hF39; clear hF37
    refine wpl_op (i := 2) rfl (o_val (v := (.int .i64 (a.length : Nat))) hF39 rfl rfl rfl rfl (rn_len_slice Tryd.underlying30 (hF39.get rfl)) ?_)
    intro a40 hF41; clear hF39
    refine wpl_op (i := 3) rfl (o_val (v := (.bool (decide (((k : Nat) : Int) < ((a.length : Nat) : Int))))) hF41 rfl rfl rfl rfl (rn_lss (hF41.get rfl) (hF41.get rfl)) ?_)
    intro a42 hF43; clear hF41
    refine wpList_nil ?_
    refine hK35 _ _ ?_
    clear hK35
    by_cases hc44 : ((k : Nat) : Int) < ((a.length : Nat) : Int)
    · skip
      refine wp_cond_true (c_true hF43 rfl (decide_eq_true hc44)) ?_
      refine wp_skip ?_
      refine hK34 _ _ ?_
      clear hK34
      refine wp_seq_k (fun K45 hK45 => ?_)
      refine wp_block ?_
      refine wp_seq_k (fun K46 hK46 => ?_)
      have hx48 : ∃ W, w26.drew = W ∧ Ext w26 W := ⟨_, rfl, (Ext.refl _).drew⟩
      obtain ⟨w47, e49, hx48⟩ := hx48
      have z50 := hx48.size
      refine any_start (fun W => Ext w47 W) (fun i => false) 9 #[false, false, false, false, false, false, false, false, false] rfl rfl rfl ?_
      rw [e49]; clear e49
      refine any_pure (i := 0) (v := (.slice A a.length c)) hF43 (by decide +kernel) (by decide +kernel) rfl rfl rfl rfl (fun _ _ _ _ h => h) rfl (fun W => (rn_move (hF43.get rfl))) ?_
      intro a51 hF52; clear hF43
      refine any_pure (i := 1) (v := (.int .i64 (k : Nat))) hF52 (by decide +kernel) (by decide +kernel) rfl rfl rfl rfl (fun _ _ _ _ h => h) rfl (fun W => (rn_move (hF52.get rfl))) ?_
      intro a53 hF54; clear hF52
      have d58 := ((ha.ext hx28).ext hx48)
      obtain ⟨b55, o56, hA57, -⟩ := Fl.at d58 (by omega)
      refine any_pure (i := 2) (v := (.pointer (some ⟨b55, o56 + k * 32, none⟩))) hF54 (by decide +kernel) (by decide +kernel) rfl rfl rfl rfl (fun _ _ _ _ h => h) rfl (fun W => (rn_indexE Tryd.underlying30 (by kernel_rfl : (Tryd.prog.info? 26).map (·.size) = some 32) ((hF54.get rfl).trans (by rw [hA57])) (hF54.get rfl) (by omega : (0 : Int) ≤ (k : Nat)) (by omega : ((k : Nat) : Int) < ((a.length : Nat) : Int)) (by omega))) ?_
      intro a59 hF60; clear hF54
      have hS61 : Ext w47 w47 := (Ext.refl w47)
      refine any_val (i := 3) (v := (.agg (byteVals (a.getD k [])).toArray)) hF60 (by decide +kernel) (by decide +kernel) rfl rfl rfl rfl (fun _ _ _ _ h => h) rfl hS61 (fun W hW => (rn_loadN (cs := byteVals (a.getD k [])) (hF60.get rfl) Tryd.underlying26 rfl ((by kernel_rfl : (Tryd.prog.info? 26).map (·.size) = some 32).trans (congrArg some (byteVals_len (dig_len h32a k (by omega))).symm)) (Fl.digAt (d58.ext hW) hA57 h32a (by omega)))) ?_
      intro a62 hF63; clear hF60
      refine any_pure (i := 4) (v := (.slice B b.length e)) hF63 (by decide +kernel) (by decide +kernel) rfl rfl rfl rfl (fun _ _ _ _ h => h) rfl (fun W => (rn_move (hF63.get rfl))) ?_
      intro a64 hF65; clear hF63
      refine any_pure (i := 5) (v := (.int .i64 (k : Nat))) hF65 (by decide +kernel) (by decide +kernel) rfl rfl rfl rfl (fun _ _ _ _ h => h) rfl (fun W => (rn_move (hF65.get rfl))) ?_
      intro a66 hF67; clear hF65
      have d71 := ((hb.ext hx28).ext hx48)
      obtain ⟨b68, o69, hA70, -⟩ := Fl.at d71 (by omega)
      refine any_pure (i := 6) (v := (.pointer (some ⟨b68, o69 + k * 32, none⟩))) hF67 (by decide +kernel) (by decide +kernel) rfl rfl rfl rfl (fun _ _ _ _ h => h) rfl (fun W => (rn_indexE Tryd.underlying30 (by kernel_rfl : (Tryd.prog.info? 26).map (·.size) = some 32) ((hF67.get rfl).trans (by rw [hA70])) (hF67.get rfl) (by omega : (0 : Int) ≤ (k : Nat)) (by omega : ((k : Nat) : Int) < ((b.length : Nat) : Int)) (by omega))) ?_
      intro a72 hF73; clear hF67
      refine any_val (i := 7) (v := (.agg (byteVals (b.getD k [])).toArray)) hF73 (by decide +kernel) (by decide +kernel) rfl rfl rfl rfl (fun _ _ _ _ h => h) rfl hS61 (fun W hW => (rn_loadN (cs := byteVals (b.getD k [])) (hF73.get rfl) Tryd.underlying26 rfl ((by kernel_rfl : (Tryd.prog.info? 26).map (·.size) = some 32).trans (congrArg some (byteVals_len (dig_len h32b k (by omega))).symm)) (Fl.digAt (d71.ext hW) hA70 h32b (by omega)))) ?_
      intro a74 hF75; clear hF73
      refine any_pure (i := 8) (v := (.bool (!decide (a.getD k [] = b.getD k [])))) hF75 (by decide +kernel) (by decide +kernel) rfl rfl rfl rfl (fun _ _ _ _ h => h) rfl (fun W => (rn_neA Tryd.underlying26 Tryd.underlying5 (by kernel_rfl : (Tryd.prog.info? 5).map (·.size) = some 1) (by kernel_rfl) (hF75.get rfl) (hF75.get rfl) (dig_len h32a k (by omega)) (dig_len h32b k (by omega)))) ?_
      intro a76 hF77; clear hF75
      refine any_nil (by decide +kernel) ?_
      refine hK46 _ _ ?_
      clear hK46
      have hF78 := (((((((hF77.nil.cons (hF77.get (t := 25) (v := (.bool (!decide (a.getD k [] = b.getD k [])))) rfl)).cons (hF77.get (t := 14) (v := (.bool (decide (((k : Nat) : Int) < ((a.length : Nat) : Int))))) rfl)).cons (hF77.get (t := 5) (v := (.int .i64 (k : Nat))) rfl)).cons (hF77.get (t := 10) (v := (.bool (decide (((a.length : Nat) : Int) ≠ ((b.length : Nat) : Int))))) rfl)).cons (hF77.get (t := 4) (v := (.bool false)) rfl)).cons (hF77.get (t := 1) (v := (.slice B b.length e)) rfl)).cons (hF77.get (t := 0) (v := (.slice A a.length c)) rfl))
      clear hF77
      by_cases hc79 : a.getD k [] = b.getD k []
      · skip
        refine wp_cond_false (c_false hF78 rfl (not_t (decide_eq_true hc79))) ?_
        refine wp_skip ?_
        refine hK45 _ _ ?_
        clear hK45
        refine wp_region_lit ?_
        refine wpl_op (i := 0) rfl (o_val (v := (.int .i64 (k : Nat))) hF78 rfl rfl rfl rfl (rn_move (hF78.get rfl)) ?_)
        intro a80 hF81; clear hF78
        refine wpl_op (i := 1) rfl (o_val (v := (.int .i64 (k + 1 : Nat))) hF81 rfl rfl rfl rfl (rn_addN (a := k) (b := 1) (hF81.get rfl) rfl (by omega)) ?_)
        intro a82 hF83; clear hF81
        refine wpl_op (i := 2) rfl (o_val (v := (.int .i64 (k + 1 : Nat))) hF83 rfl rfl rfl rfl (rn_assign (hF83.get rfl)) ?_)
        intro a84 hF85; clear hF83
        refine wpList_nil ?_
        refine ⟨⟨(k + 1), (((((hF85.nil.cons (q_get hF85 (t := 5) rfl (by first | rfl | (congr 1; omega) | (congr 1; done)))).cons (q_get hF85 (t := 10) rfl rfl)).cons (q_get hF85 (t := 4) rfl rfl)).cons (q_get hF85 (t := 1) rfl rfl)).cons (q_get hF85 (t := 0) rfl rfl)), (by omega), (take_succ_eq (d := []) hp30 (by omega) (by omega) hc79), (((Ext.refl w).trans hx28).trans hx48), (by omega)⟩, ?_⟩
        rw [hF85.get (t := 5) rfl, hL32.get (t := 5) rfl]; simp [intOf] <;> omega
      · skip
        refine wp_cond_true (c_true hF78 rfl (not_f (decide_eq_false hc79))) ?_
        refine wp_seq_k (fun K86 hK86 => ?_)
        refine wp_region_lit ?_
        refine wpl_op (i := 0) rfl (o_val (v := (.bool false)) hF78 rfl rfl rfl rfl (rn_assign rfl) ?_)
        intro a87 hF88; clear hF78
        refine wpList_nil ?_
        refine hK86 _ _ ?_
        clear hK86
        refine wp_ret ?_
        refine ret_block ?_
        refine ret_then ?_
        refine ret_then ?_
        refine ret_block ?_
        refine ret_then ?_
        refine ret1 hF88 rfl rfl ?_
        have hab : a ≠ b := ne_of_getD hc79
        exact ⟨by rw [decide_eq_false hab], (((Ext.refl w).trans hx28).trans hx48)⟩
    · skip
      refine wp_cond_false (c_false hF43 rfl (decide_eq_false hc44)) ?_
      refine wp_exit ?_
      refine exit_then ?_
      refine exit_then ?_
      refine exit_here ?_
      refine hK21 _ _ ?_
      clear hK21
      refine wp_seq_k (fun K89 hK89 => ?_)
      refine wp_region_lit ?_
      refine wpl_op (i := 0) rfl (o_val (v := (.bool true)) hF43 rfl rfl rfl rfl (rn_assign rfl) ?_)
      intro a90 hF91; clear hF43
      refine wpList_nil ?_
      refine hK89 _ _ ?_
      clear hK89
      refine wp_ret ?_
      refine ret1 hF91 rfl rfl ?_
      have hab : a = b := take_all_eq hp30 (by omega) (by omega)
      exact ⟨by rw [decide_eq_true hab], ((Ext.refl w).trans hx28)⟩

theorem rsame_at {S2 : Nat → Prop} {v u : Value} {n m : Nat} (a b : List (List UInt8)) (w : World) (h32a : All32 a) (h32b : All32 b) (ha : Fl S w 32 v n (digVals a)) (hb : Fl S2 w 32 u m (digVals b)) : Calls Tryd.prog 20 #[v, u] w (fun e w' => e = .returned (.bool (decide (a = b))) ∧ Ext w w') := by
  have h1 := Fl.dlen ha h32a
  have h2 := Fl.dlen hb h32b
  subst h1 h2
  obtain ⟨A, c, rfl, hc⟩ := ha.form
  obtain ⟨B, e, rfl, he⟩ := hb.form
  exact rsame_any A B c e a b w h32a h32b ha hb (by omega)

end Go.Proofs.YtgodliookpgliaaDoor
