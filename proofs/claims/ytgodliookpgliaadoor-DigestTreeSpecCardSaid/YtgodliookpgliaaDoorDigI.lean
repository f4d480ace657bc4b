/- Contract of Path. -/
import Derived.Test.YtgodliookpgliaaDoorProg
import Derived.Test.YtgodliookpgliaaDoorDigH
import Derived.KernelRfl
namespace Go.Proofs.YtgodliookpgliaaDoor
open Go.RowKit

variable {S S' : Nat → Prop}

theorem rev_at {A : Option Addr} {n c base : Nat} (l : List (List UInt8)) (w : World) (h32 : All32 l) (hr : w.ownsRow base 26 32 (.slice A n c) n (digVals l)) :
    Calls Tryd.prog 33 #[.slice A n c] w (fun e w' => e = .returned (.tuple #[]) ∧ w'.ownsRow base 26 32 (.slice A n c) n (digVals l.reverse) ∧ w.grownBy w' (Value.slice A n c).ownBlock) := by
  rcases hr.2 with ⟨h', h0⟩ | ⟨g, cap, cur, h', _⟩
  · cases h'
    have hl : l = [] := List.eq_nil_of_length_eq_zero ((Fl.dlen (Fl.own (S := fun _ => True) hr (fun _ _ => trivial) (digVals_one _)) h32))
    subst hl
    refine (rev_nil w).mono ?_
    rintro e w' ⟨rfl, hx⟩
    exact ⟨rfl, own_ext hr hx, ⟨hx.below.os, hx.below.tape, hx.below.output, hx.size, fun i hi _ => hx.below.block i hi⟩⟩
  · cases h'
    exact rev_any g n c base l w h32 hr
def pathD (l : List (List UInt8)) (at_ : Nat) : List (List UInt8) := pathL nodeD leafD emptyD l at_
def pathF (l : List (List UInt8)) (at_ : Int) : List (List UInt8) × Int := if at_ < 0 ∨ (l.length : Int) ≤ at_ then ([], 1) else (pathD l at_.toNat, 0)
theorem pathD_first {l l0 p : List (List UInt8)} {a a0 : Nat} (h : 2 ≤ l0.length) (h2 : a0 < half l0.length) (e : pathD l a = pathD l0 a0 ++ p.reverse) : pathD l a = pathD (l0.take (half l0.length)) a0 ++ (p ++ [treeD (l0.drop (half l0.length))]).reverse := by
  rw [e, pathD, path_first _ _ _ h h2]; simp [pathD, treeD]
theorem pathD_second {l l0 p : List (List UInt8)} {a a0 : Nat} (h : 2 ≤ l0.length) (h2 : ¬ a0 < half l0.length) (e : pathD l a = pathD l0 a0 ++ p.reverse) : pathD l a = pathD (l0.drop (half l0.length)) (a0 - half l0.length) ++ (p ++ [treeD (l0.take (half l0.length))]).reverse := by
  rw [e, pathD, path_second _ _ _ h h2]; simp [pathD, treeD]
theorem pathD_done {l l0 p : List (List UInt8)} {a a0 : Nat} (h : l0.length ≤ 1) (e : pathD l a = pathD l0 a0 ++ p.reverse) : p.reverse = pathD l a := by
  rw [e, pathD, path_one _ _ _ h]; rfl

set_option maxRecDepth 100000 in
set_option maxHeartbeats 1000000 in
theorem path_any (A : Option Addr) (c : Nat) (l : List (List UInt8)) (at_ : Int) (w : World) (h32 : All32 l) (hf : Fl S w 32 (.slice A l.length c) l.length (digVals l)) (hG : Glob w) (hbig : l.length ≤ 4398046511104) :
    Calls Tryd.prog 18 #[.slice A l.length c, .int .i64 at_] w (fun e w' => ∃ A' n c', e = .returned (.tuple #[.slice A' n c', .int .i64 (pathF l at_).2]) ∧ Fl (fun b => w.heap.size ≤ b) w' 32 (.slice A' n c') n (digVals (pathF l at_).1) ∧ All32 (pathF l at_).1 ∧ Ext w w') := by
  have hc : Fl (Clip S w) w 32 (.slice A l.length c) l.length (digVals l) := hf.clip
  have hcc := (Fl.cel hc).2.1
  refine calls_enter (l := [(.slice A l.length c), (.int .i64 at_)]) Tryd.func18 rfl rfl rfl (fun aA hF => ?_)
  refine wp_seq_k (fun K1 hK1 => ?_)
  refine wp_region_lit ?_
  refine wpl_op (i := 0) rfl (o_val (v := (.slice none 0 0)) hF rfl rfl rfl rfl (rn_assign rfl) ?_)
  intro a2 hF3; clear hF
  refine wpl_op (i := 1) rfl (o_val (v := (.int .i64 0)) hF3 rfl rfl rfl rfl (rn_assign rfl) ?_)
  intro a4 hF5; clear hF3
  refine wpList_nil ?_
  refine hK1 _ _ ?_
  clear hK1
  refine wp_seq_k (fun K6 hK6 => ?_)
  refine wp_seq_k (fun K7 hK7 => ?_)
  refine wp_region_lit ?_
  refine wpl_op (i := 0) rfl (o_val (v := (.int .i64 at_)) hF5 rfl rfl rfl rfl (rn_move (hF5.get rfl)) ?_)
  intro a8 hF9; clear hF5
  refine wpl_op (i := 1) rfl (o_val (v := (.bool (decide ((at_ : Int) < (0 : Int))))) hF9 rfl rfl rfl rfl (rn_lss (hF9.get rfl) rfl) ?_)
  intro a10 hF11; clear hF9
  refine wpl_op (i := 2) rfl (o_val (v := (.bool (decide ((at_ : Int) < (0 : Int))))) hF11 rfl rfl rfl rfl (rn_move (hF11.get rfl)) ?_)
  intro a12 hF13; clear hF11
  by_cases hc14 : (at_ : Int) < (0 : Int)
  · skip
    refine wpl_op (i := 3) rfl (o_skip hF13 rfl (unwanted_guard rfl rfl rfl hF13 rfl (decide_eq_true hc14) rfl) rfl rfl ?_)
    intro a15 hF16; clear hF13
    refine wpl_op (i := 4) rfl (o_skip hF16 rfl (unwanted_guard rfl rfl rfl hF16 rfl (decide_eq_true hc14) rfl) rfl rfl ?_)
    intro a17 hF18; clear hF16
    refine wpl_op (i := 5) rfl (o_skip hF18 rfl (unwanted_guard rfl rfl rfl hF18 rfl (decide_eq_true hc14) rfl) rfl rfl ?_)
    intro a19 hF20; clear hF18
    refine wpl_op (i := 6) rfl (o_skip hF20 rfl (unwanted_guard rfl rfl rfl hF20 rfl (decide_eq_true hc14) rfl) rfl rfl ?_)
    intro a21 hF22; clear hF20
    refine wpl_op (i := 7) rfl (o_val (v := (.bool true)) hF22 rfl rfl rfl rfl (rn_pickT (c_true hF22 rfl (decide_eq_true hc14)) rfl) ?_)
    intro a23 hF24; clear hF22
    refine wpList_nil ?_
    refine hK7 _ _ ?_
    clear hK7
    have hF25 := (((((hF24.nil.cons (hF24.get (t := 14) (v := (.bool true)) rfl)).cons (hF24.get (t := 5) (v := (.int .i64 0)) rfl)).cons (hF24.get (t := 4) (v := (.slice none 0 0)) rfl)).cons (hF24.get (t := 1) (v := (.int .i64 at_)) rfl)).cons (hF24.get (t := 0) (v := (.slice A l.length c)) rfl))
    clear hF24
    refine wp_cond_true (c_true hF25 rfl rfl) ?_
    refine wp_seq_k (fun K26 hK26 => ?_)
    refine wp_region_lit ?_
    refine wpl_op (i := 0) rfl (o_val (v := (.slice none 0 0)) hF25 rfl rfl rfl rfl (rn_assign rfl) ?_)
    intro a27 hF28; clear hF25
    refine wpl_op (i := 1) rfl (o_val (v := (.int .i64 1)) hF28 rfl rfl rfl rfl (rn_assign rfl) ?_)
    intro a29 hF30; clear hF28
    refine wpList_nil ?_
    refine hK26 _ _ ?_
    clear hK26
    refine wp_ret ?_
    refine ret_then ?_
    refine ret2 hF30 rfl rfl rfl ?_
    exact ⟨none, 0, 0, by rw [pathF, if_pos (by omega)], by rw [pathF, if_pos (by omega)]; exact Fl.nil _, by rw [pathF, if_pos (by omega)]; exact All32.nil, (Ext.refl w)⟩
  · skip
    refine wpl_op (i := 3) rfl (o_val (v := (.int .i64 at_)) hF13 rfl (wanted_guard rfl rfl rfl hF13 rfl (decide_eq_false hc14) rfl) rfl rfl (rn_move (hF13.get rfl)) ?_)
    intro a31 hF32; clear hF13
    refine wpl_op (i := 4) rfl (o_val (v := (.slice A l.length c)) hF32 rfl (wanted_guard rfl rfl rfl hF32 rfl (decide_eq_false hc14) rfl) rfl rfl (rn_move (hF32.get rfl)) ?_)
    intro a33 hF34; clear hF32
    refine wpl_op (i := 5) rfl (o_val (v := (.int .i64 (l.length : Nat))) hF34 rfl (wanted_guard rfl rfl rfl hF34 rfl (decide_eq_false hc14) rfl) rfl rfl (rn_len_slice Tryd.underlying30 (hF34.get rfl)) ?_)
    intro a35 hF36; clear hF34
    refine wpl_op (i := 6) rfl (o_val (v := (.bool (decide (((l.length : Nat) : Int) ≤ (at_ : Int))))) hF36 rfl (wanted_guard rfl rfl rfl hF36 rfl (decide_eq_false hc14) rfl) rfl rfl (rn_geq (hF36.get rfl) (hF36.get rfl)) ?_)
    intro a37 hF38; clear hF36
    refine wpl_op (i := 7) rfl (o_val (v := (.bool (decide (((l.length : Nat) : Int) ≤ (at_ : Int))))) hF38 rfl rfl rfl rfl (rn_pickF (c_false hF38 rfl (decide_eq_false hc14)) (hF38.get rfl)) ?_)
    intro a39 hF40; clear hF38
    refine wpList_nil ?_
    refine hK7 _ _ ?_
    clear hK7
    have hF41 := (((((hF40.nil.cons (hF40.get (t := 14) (v := (.bool (decide (((l.length : Nat) : Int) ≤ (at_ : Int))))) rfl)).cons (hF40.get (t := 5) (v := (.int .i64 0)) rfl)).cons (hF40.get (t := 4) (v := (.slice none 0 0)) rfl)).cons (hF40.get (t := 1) (v := (.int .i64 at_)) rfl)).cons (hF40.get (t := 0) (v := (.slice A l.length c)) rfl))
    clear hF40
    by_cases hc42 : ((l.length : Nat) : Int) ≤ (at_ : Int)
    · skip
      refine wp_cond_true (c_true hF41 rfl (decide_eq_true hc42)) ?_
      refine wp_seq_k (fun K43 hK43 => ?_)
      refine wp_region_lit ?_
      refine wpl_op (i := 0) rfl (o_val (v := (.slice none 0 0)) hF41 rfl rfl rfl rfl (rn_assign rfl) ?_)
      intro a44 hF45; clear hF41
      refine wpl_op (i := 1) rfl (o_val (v := (.int .i64 1)) hF45 rfl rfl rfl rfl (rn_assign rfl) ?_)
      intro a46 hF47; clear hF45
      refine wpList_nil ?_
      refine hK43 _ _ ?_
      clear hK43
      refine wp_ret ?_
      refine ret_then ?_
      refine ret2 hF47 rfl rfl rfl ?_
      exact ⟨none, 0, 0, by rw [pathF, if_pos (by omega)], by rw [pathF, if_pos (by omega)]; exact Fl.nil _, by rw [pathF, if_pos (by omega)]; exact All32.nil, (Ext.refl w)⟩
    · skip
      refine wp_cond_false (c_false hF41 rfl (decide_eq_false hc42)) ?_
      refine wp_skip ?_
      refine hK6 _ _ ?_
      clear hK6
      refine wp_seq_k (fun K48 hK48 => ?_)
      refine wp_block ?_
      obtain ⟨an, han⟩ : ∃ an : Nat, at_ = (an : Int) := ⟨at_.toNat, by omega⟩
      refine wp_loop (fun a' W => ∃ (A0 : Option Addr) (n0 : Nat) (c0 : Nat) (l0 : List (List UInt8)) (a0 : Nat) (Ap : Option Addr) (np : Nat) (cp : Nat) (p0 : List (List UInt8)), Sl 50 [(0, (.slice A0 n0 c0)), (1, (.int .i64 (a0 : Nat))), (4, (.slice Ap np cp)), (5, (.int .i64 0)), (14, (.bool (decide (((l.length : Nat) : Int) ≤ (at_ : Int)))))] a' ∧ l0.length = n0 ∧ pathD l an = pathD l0 a0 ++ p0.reverse ∧ a0 < n0 ∧ All32 l0 ∧ All32 p0 ∧ np + n0 ≤ l.length ∧ Ext w W ∧ W.ownsRow w.heap.size 26 32 (.slice Ap np cp) np (digVals p0) ∧ Fl (Clip S w) W 32 (.slice A0 n0 c0) n0 (digVals l0) ∧ w.heap.size ≤ W.heap.size ∧ w.heap.size ≤ W.heap.size) (fun a' _ => (sliceLen (a'.eval (.tmp 0)))) ⟨A, l.length, c, l, an, none, 0, 0, [], (((((hF41.nil.cons (q_get hF41 (t := 14) rfl rfl)).cons (q_get hF41 (t := 5) rfl rfl)).cons (q_get hF41 (t := 4) rfl (by first | rfl | (congr 1; omega) | (congr 1; done)))).cons (q_get hF41 (t := 1) rfl (by first | rfl | (congr 1; omega) | (congr 1; done)))).cons (q_get hF41 (t := 0) rfl (by first | rfl | (congr 1; omega) | (congr 1; done)))), rfl, (List.append_nil _).symm, (by omega), h32, All32.nil, (by omega), (Ext.refl w), (own_nil w w.heap.size 26 32), hc, (by omega), (Nat.le_refl _)⟩ ?_
      clear hF41
      rintro a49 w50 ⟨A0, n0, c0, l0, a0, Ap, np, cp, p0, hF51, hp53, hp54, hp55, hp56, hp57, hp58, hx52, r59, hf60, hf61, hf62⟩
      have hL63 := hF51
      have z64 := hx52.size
      have z65 := own_form0 r59
      have hl32 := hp56
      have hp32 := hp57
      have hcc1 := (Fl.cel hf60).2.1
      refine wp_seq_k (fun K66 hK66 => ?_)
      refine wp_seq_k (fun K67 hK67 => ?_)
      refine wp_region_lit ?_
      refine wpl_op (i := 0) rfl (o_val (v := (.slice A0 n0 c0)) hF51 rfl rfl rfl rfl (rn_move (hF51.get rfl)) ?_)
      intro a68 hF69; clear hF51
      refine wpl_op (i := 1) rfl (o_val (v := (.int .i64 (n0 : Nat))) hF69 rfl rfl rfl rfl (rn_len_slice Tryd.underlying30 (hF69.get rfl)) ?_)
      intro a70 hF71; clear hF69
      refine wpl_op (i := 2) rfl (o_val (v := (.bool (decide ((1 : Int) < ((n0 : Nat) : Int))))) hF71 rfl rfl rfl rfl (rn_gtr (hF71.get rfl) rfl) ?_)
      intro a72 hF73; clear hF71
      refine wpList_nil ?_
      refine hK67 _ _ ?_
      clear hK67
      by_cases hc74 : (1 : Int) < ((n0 : Nat) : Int)
      · skip
        refine wp_cond_true (c_true hF73 rfl (decide_eq_true hc74)) ?_
        refine wp_skip ?_
        refine hK66 _ _ ?_
        clear hK66
        refine wp_block ?_
        refine wp_seq_k (fun K75 hK75 => ?_)
        refine wp_region_lit ?_
        refine wpl_op (i := 0) rfl (o_val (v := (.slice A0 n0 c0)) hF73 rfl rfl rfl rfl (rn_move (hF73.get rfl)) ?_)
        intro a76 hF77; clear hF73
        refine wpl_op (i := 1) rfl (o_val (v := (.int .i64 (n0 : Nat))) hF77 rfl rfl rfl rfl (rn_len_slice Tryd.underlying30 (hF77.get rfl)) ?_)
        intro a78 hF79; clear hF77
        have z80 := half_lt (n := n0) (by omega); have z81 := half_pos n0
        refine wpl_op (i := 2) rfl (o_call hF79 rfl rfl rfl rfl (rn_call (args1 (hF79.get rfl)) rfl (by kernel_rfl)) (half_any n0 _ (by omega) (by omega)) ?_)
        rintro _ w82 ⟨rfl, hx83⟩
        refine ⟨_, rfl, ?_⟩; intro a84 hF85; clear hF79; have z86 := hx83.size
        refine wpl_op (i := 3) rfl (o_val (v := (.int .i64 (half n0 : Nat))) hF85 rfl rfl rfl rfl (rn_assign (hF85.get rfl)) ?_)
        intro a87 hF88; clear hF85
        refine wpList_nil ?_
        refine hK75 _ _ ?_
        clear hK75
        have hF89 := (((((((hF88.nil.cons (hF88.get (t := 6) (v := (.int .i64 (half n0 : Nat))) rfl)).cons (hF88.get (t := 17) (v := (.bool (decide ((1 : Int) < ((n0 : Nat) : Int))))) rfl)).cons (hF88.get (t := 14) (v := (.bool (decide (((l.length : Nat) : Int) ≤ (at_ : Int))))) rfl)).cons (hF88.get (t := 5) (v := (.int .i64 0)) rfl)).cons (hF88.get (t := 4) (v := (.slice Ap np cp)) rfl)).cons (hF88.get (t := 1) (v := (.int .i64 (a0 : Nat))) rfl)).cons (hF88.get (t := 0) (v := (.slice A0 n0 c0)) rfl))
        clear hF88
        refine wp_seq_k (fun K90 hK90 => ?_)
        refine wp_region_lit ?_
        refine wpl_op (i := 0) rfl (o_val (v := (.int .i64 (a0 : Nat))) hF89 rfl rfl rfl rfl (rn_move (hF89.get rfl)) ?_)
        intro a91 hF92; clear hF89
        refine wpl_op (i := 1) rfl (o_val (v := (.int .i64 (half n0 : Nat))) hF92 rfl rfl rfl rfl (rn_move (hF92.get rfl)) ?_)
        intro a93 hF94; clear hF92
        refine wpl_op (i := 2) rfl (o_val (v := (.bool (decide (((a0 : Nat) : Int) < ((half n0 : Nat) : Int))))) hF94 rfl rfl rfl rfl (rn_lss (hF94.get rfl) (hF94.get rfl)) ?_)
        intro a95 hF96; clear hF94
        refine wpList_nil ?_
        refine hK90 _ _ ?_
        clear hK90
        by_cases hc97 : ((a0 : Nat) : Int) < ((half n0 : Nat) : Int)
        · skip
          refine wp_cond_true (c_true hF96 rfl (decide_eq_true hc97)) ?_
          have hx99 : ∃ W, w82.drew = W ∧ Ext w82 W := ⟨_, rfl, (Ext.refl _).drew⟩
          obtain ⟨w98, e100, hx99⟩ := hx99
          have z101 := hx99.size
          refine any_start (fun W => True) (fun i => false) 12 #[false, false, false, false, false, false, false, false, false, false, false, false] rfl rfl rfl ?_
          rw [e100]; clear e100
          refine any_pure (i := 0) (v := (.slice Ap np cp)) hF96 (by decide +kernel) (by decide +kernel) rfl rfl rfl rfl (fun _ _ _ _ h => h) rfl (fun W => (rn_move (hF96.get rfl))) ?_
          intro a102 hF103; clear hF96
          refine any_pure (i := 1) (v := (.slice A0 n0 c0)) hF103 (by decide +kernel) (by decide +kernel) rfl rfl rfl rfl (fun _ _ _ _ h => h) rfl (fun W => (rn_move (hF103.get rfl))) ?_
          intro a104 hF105; clear hF103
          refine any_pure (i := 2) (v := (.int .i64 (half n0 : Nat))) hF105 (by decide +kernel) (by decide +kernel) rfl rfl rfl rfl (fun _ _ _ _ h => h) rfl (fun W => (rn_move (hF105.get rfl))) ?_
          intro a106 hF107; clear hF105
          have d111 := ((hf60.ext hx83).ext hx99)
          obtain ⟨b108, o109, hA110, -⟩ := Fl.at d111 (by omega)
          refine any_pure (i := 3) (v := (.slice (some ⟨b108, o109 + (half n0) * 32, none⟩) (n0 - (half n0)) (c0 - (half n0)))) hF107 (by decide +kernel) (by decide +kernel) rfl rfl rfl rfl (fun _ _ _ _ h => h) rfl (fun W => (rn_sliceLo (l := (half n0)) Tryd.underlying30 (by kernel_rfl : (Tryd.prog.info? 26).map (·.size) = some 32) ((hF107.get rfl).trans (by rw [hA110])) (hF107.get rfl) (by omega : (half n0) ≤ n0) (by omega : (half n0) < c0))) ?_
          intro a112 hF113; clear hF107
          refine any_pure (i := 7) (v := (.slice A0 n0 c0)) hF113 (by decide +kernel) (by decide +kernel) rfl rfl rfl rfl (fun _ _ _ _ h => h) rfl (fun W => (rn_move (hF113.get rfl))) ?_
          intro a114 hF115; clear hF113
          refine any_pure (i := 8) (v := (.int .i64 (half n0 : Nat))) hF115 (by decide +kernel) (by decide +kernel) rfl rfl rfl rfl (fun _ _ _ _ h => h) rfl (fun W => (rn_move (hF115.get rfl))) ?_
          intro a116 hF117; clear hF115
          refine any_pure (i := 9) (v := (.slice A0 (half n0) c0)) hF117 (by decide +kernel) (by decide +kernel) rfl rfl rfl rfl (fun _ _ _ _ h => h) rfl (fun W => (rn_sliceHi Tryd.underlying30 (by kernel_rfl : (Tryd.prog.info? 26).map (·.size) = some 32) (hF117.get rfl) (hF117.get rfl) (by omega : (0 : Int) ≤ (half n0 : Nat)) (by omega : ((half n0 : Nat) : Int) ≤ ((c0 : Nat) : Int)))) ?_
          intro a118 hF119; clear hF117
          refine any_one (i := 4) (by decide +kernel) rfl ?_
          have hf120 := (Fl.drop_eq (j := (half n0)) d111 hA110 (by omega) (digVals_drop hl32 _))
          refine o_call hF119 rfl rfl rfl rfl (rn_call (args1 (hF119.get rfl)) rfl (by kernel_rfl)) (tree_at (l0.drop (half n0)) _ (n := n0 - (half n0)) (v := (.slice (some ⟨b108, o109 + (half n0) * 32, none⟩) (n0 - (half n0)) (c0 - (half n0)))) (All32.drop hl32 _) hf120 (hG.ext ((((Ext.refl w).trans hx52).trans hx83).trans hx99))) ?_
          rintro _ w121 ⟨rfl, hx122⟩
          refine ⟨_, rfl, ?_⟩; intro a123 hF124; clear hF119; have z125 := hx122.size
          refine ⟨fun _ _ => trivial, ?_⟩
          refine any_one (i := 5) (by decide +kernel) rfl ?_
          refine o_new (fun g => (.slice (some ⟨g, 0, none⟩) 1 1)) (byteVals ((treeD (l0.drop (half n0))))) 26 hF124 rfl rfl rfl rfl (rn_buildSlice (parts1 (hF124.get rfl)) (build_wholeE (vs := [(.agg (byteVals (treeD (l0.drop (half n0)))).toArray)]) El30 rfl rfl (fun v hv => by rw [List.mem_singleton.1 hv]; exact (byteVals_len (treeD_len _))) (by decide) (by decide) (by simp [Value.cells, byteVals]))) ?_
          intro g126 w127 a132 hF133 z130 z131 b128 hx129; clear hF124
          refine ⟨fun _ _ => trivial, ?_⟩
          refine any_one (i := 6) (by decide +kernel) rfl ?_
          have r134 := (own_ext (own_ext (own_ext (own_ext r59 hx83) hx99) hx122) hx129)
          have hf142 := r134
          refine o_appA (zs := digVals (p0 ++ ([treeD (l0.drop (half n0))]))) El30 hF133 rfl rfl rfl rfl rfl (hF133.get rfl) (hF133.get rfl) hf142 (Fl.cel (Fl.digblk (S := fun b => b = g126) b128 (All32.sing (treeD_len _)) (by simp [digVals, byteVals]))).2.2 (by omega) (by omega) (by omega) (digVals_app _ _) ?_
          intro A135 c136 w137 a143 hF144 r138 hg139 z140 z141; clear hF133; have z145 := hg139.size
          refine ⟨fun _ _ => trivial, ?_⟩
          refine any_pure (i := 10) (v := (.slice A135 (np + 1) c136)) hF144 (by decide +kernel) (by decide +kernel) rfl rfl rfl rfl (fun _ _ _ _ h => h) rfl (fun W => (rn_assign (hF144.get rfl))) ?_
          intro a146 hF147; clear hF144
          refine any_pure (i := 11) (v := (.slice A0 (half n0) c0)) hF147 (by decide +kernel) (by decide +kernel) rfl rfl rfl rfl (fun _ _ _ _ h => h) rfl (fun W => (rn_assign (hF147.get rfl))) ?_
          intro a148 hF149; clear hF147
          refine any_nil (by decide +kernel) ?_
          have d150 := (hf60.pres (Pres.row (((((Pres.refl w50).ext hx83).ext hx99).ext hx122).ext hx129) hg139 hf142 (fun b hb h => by simp only [Clip] at h; omega)))
          refine ⟨⟨A0, (half n0), c0, l0.take (half n0), a0, A135, np + 1, c136, p0 ++ ([treeD (l0.drop (half n0))]), (((((hF149.nil.cons (q_get hF149 (t := 14) rfl rfl)).cons (q_get hF149 (t := 5) rfl rfl)).cons (q_get hF149 (t := 4) rfl (by first | rfl | (congr 1; omega) | (congr 1; done)))).cons (q_get hF149 (t := 1) rfl (by first | rfl | (congr 1; omega) | (congr 1; done)))).cons (q_get hF149 (t := 0) rfl (by first | rfl | (congr 1; omega) | (congr 1; done)))), (Fl.dlen (Fl.take_eq (j := (half n0)) d150 (by omega) (digVals_take hl32 _)) (All32.take hl32 _)), (by have hpl : l0.length = n0 := hp53; subst hpl; exact pathD_first (by omega) (by omega) hp54), (by omega), (All32.take hl32 _), (All32.app hp32 (All32.sing (treeD_len _))), (by omega), (ext_row ((((((Ext.refl w).trans hx52).trans hx83).trans hx99).trans hx122).trans hx129) hg139 hf142 (by omega)), r138, (Fl.take_eq (j := (half n0)) d150 (by omega) (digVals_take hl32 _)), (by omega), (by omega)⟩, ?_⟩
          rw [hF149.get (t := 0) rfl, hL63.get (t := 0) rfl]; simp only [sliceLen]; omega
        · skip
          refine wp_cond_false (c_false hF96 rfl (decide_eq_false hc97)) ?_
          have hx152 : ∃ W, w82.drew = W ∧ Ext w82 W := ⟨_, rfl, (Ext.refl _).drew⟩
          obtain ⟨w151, e153, hx152⟩ := hx152
          have z154 := hx152.size
          refine any_start (fun W => True) (fun i => false) 16 #[false, false, false, false, false, false, false, false, false, false, false, false, false, false, false, false] rfl rfl rfl ?_
          rw [e153]; clear e153
          refine any_pure (i := 0) (v := (.slice Ap np cp)) hF96 (by decide +kernel) (by decide +kernel) rfl rfl rfl rfl (fun _ _ _ _ h => h) rfl (fun W => (rn_move (hF96.get rfl))) ?_
          intro a155 hF156; clear hF96
          refine any_pure (i := 1) (v := (.slice A0 n0 c0)) hF156 (by decide +kernel) (by decide +kernel) rfl rfl rfl rfl (fun _ _ _ _ h => h) rfl (fun W => (rn_move (hF156.get rfl))) ?_
          intro a157 hF158; clear hF156
          refine any_pure (i := 2) (v := (.int .i64 (half n0 : Nat))) hF158 (by decide +kernel) (by decide +kernel) rfl rfl rfl rfl (fun _ _ _ _ h => h) rfl (fun W => (rn_move (hF158.get rfl))) ?_
          intro a159 hF160; clear hF158
          refine any_pure (i := 3) (v := (.slice A0 (half n0) c0)) hF160 (by decide +kernel) (by decide +kernel) rfl rfl rfl rfl (fun _ _ _ _ h => h) rfl (fun W => (rn_sliceHi Tryd.underlying30 (by kernel_rfl : (Tryd.prog.info? 26).map (·.size) = some 32) (hF160.get rfl) (hF160.get rfl) (by omega : (0 : Int) ≤ (half n0 : Nat)) (by omega : ((half n0 : Nat) : Int) ≤ ((c0 : Nat) : Int)))) ?_
          intro a161 hF162; clear hF160
          refine any_pure (i := 7) (v := (.slice A0 n0 c0)) hF162 (by decide +kernel) (by decide +kernel) rfl rfl rfl rfl (fun _ _ _ _ h => h) rfl (fun W => (rn_move (hF162.get rfl))) ?_
          intro a163 hF164; clear hF162
          refine any_pure (i := 8) (v := (.int .i64 (half n0 : Nat))) hF164 (by decide +kernel) (by decide +kernel) rfl rfl rfl rfl (fun _ _ _ _ h => h) rfl (fun W => (rn_move (hF164.get rfl))) ?_
          intro a165 hF166; clear hF164
          have d170 := ((hf60.ext hx83).ext hx152)
          obtain ⟨b167, o168, hA169, -⟩ := Fl.at d170 (by omega)
          refine any_pure (i := 9) (v := (.slice (some ⟨b167, o168 + (half n0) * 32, none⟩) (n0 - (half n0)) (c0 - (half n0)))) hF166 (by decide +kernel) (by decide +kernel) rfl rfl rfl rfl (fun _ _ _ _ h => h) rfl (fun W => (rn_sliceLo (l := (half n0)) Tryd.underlying30 (by kernel_rfl : (Tryd.prog.info? 26).map (·.size) = some 32) ((hF166.get rfl).trans (by rw [hA169])) (hF166.get rfl) (by omega : (half n0) ≤ n0) (by omega : (half n0) < c0))) ?_
          intro a171 hF172; clear hF166
          refine any_pure (i := 10) (v := (.int .i64 (a0 : Nat))) hF172 (by decide +kernel) (by decide +kernel) rfl rfl rfl rfl (fun _ _ _ _ h => h) rfl (fun W => (rn_move (hF172.get rfl))) ?_
          intro a173 hF174; clear hF172
          refine any_pure (i := 11) (v := (.int .i64 (half n0 : Nat))) hF174 (by decide +kernel) (by decide +kernel) rfl rfl rfl rfl (fun _ _ _ _ h => h) rfl (fun W => (rn_move (hF174.get rfl))) ?_
          intro a175 hF176; clear hF174
          refine any_pure (i := 12) (v := (.int .i64 (a0 - (half n0) : Nat))) hF176 (by decide +kernel) (by decide +kernel) rfl rfl rfl rfl (fun _ _ _ _ h => h) rfl (fun W => (rn_subN (a := a0) (b := half n0) (hF176.get rfl) (hF176.get rfl) (by omega) (by omega))) ?_
          intro a177 hF178; clear hF176
          refine any_one (i := 4) (by decide +kernel) rfl ?_
          have hf179 := (Fl.take_eq (j := (half n0)) d170 (by omega) (digVals_take hl32 _))
          refine o_call hF178 rfl rfl rfl rfl (rn_call (args1 (hF178.get rfl)) rfl (by kernel_rfl)) (tree_at (l0.take (half n0)) _ (n := (half n0)) (v := (.slice A0 (half n0) c0)) (All32.take hl32 _) hf179 (hG.ext ((((Ext.refl w).trans hx52).trans hx83).trans hx152))) ?_
          rintro _ w180 ⟨rfl, hx181⟩
          refine ⟨_, rfl, ?_⟩; intro a182 hF183; clear hF178; have z184 := hx181.size
          refine ⟨fun _ _ => trivial, ?_⟩
          refine any_one (i := 5) (by decide +kernel) rfl ?_
          refine o_new (fun g => (.slice (some ⟨g, 0, none⟩) 1 1)) (byteVals ((treeD (l0.take (half n0))))) 26 hF183 rfl rfl rfl rfl (rn_buildSlice (parts1 (hF183.get rfl)) (build_wholeE (vs := [(.agg (byteVals (treeD (l0.take (half n0)))).toArray)]) El30 rfl rfl (fun v hv => by rw [List.mem_singleton.1 hv]; exact (byteVals_len (treeD_len _))) (by decide) (by decide) (by simp [Value.cells, byteVals]))) ?_
          intro g185 w186 a191 hF192 z189 z190 b187 hx188; clear hF183
          refine ⟨fun _ _ => trivial, ?_⟩
          refine any_one (i := 6) (by decide +kernel) rfl ?_
          have r193 := (own_ext (own_ext (own_ext (own_ext r59 hx83) hx152) hx181) hx188)
          have hf201 := r193
          refine o_appA (zs := digVals (p0 ++ ([treeD (l0.take (half n0))]))) El30 hF192 rfl rfl rfl rfl rfl (hF192.get rfl) (hF192.get rfl) hf201 (Fl.cel (Fl.digblk (S := fun b => b = g185) b187 (All32.sing (treeD_len _)) (by simp [digVals, byteVals]))).2.2 (by omega) (by omega) (by omega) (digVals_app _ _) ?_
          intro A194 c195 w196 a202 hF203 r197 hg198 z199 z200; clear hF192; have z204 := hg198.size
          refine ⟨fun _ _ => trivial, ?_⟩
          refine any_pure (i := 13) (v := (.slice A194 (np + 1) c195)) hF203 (by decide +kernel) (by decide +kernel) rfl rfl rfl rfl (fun _ _ _ _ h => h) rfl (fun W => (rn_assign (hF203.get rfl))) ?_
          intro a205 hF206; clear hF203
          refine any_pure (i := 14) (v := (.slice (some ⟨b167, o168 + (half n0) * 32, none⟩) (n0 - (half n0)) (c0 - (half n0)))) hF206 (by decide +kernel) (by decide +kernel) rfl rfl rfl rfl (fun _ _ _ _ h => h) rfl (fun W => (rn_assign (hF206.get rfl))) ?_
          intro a207 hF208; clear hF206
          refine any_pure (i := 15) (v := (.int .i64 (a0 - (half n0) : Nat))) hF208 (by decide +kernel) (by decide +kernel) rfl rfl rfl rfl (fun _ _ _ _ h => h) rfl (fun W => (rn_assign (hF208.get rfl))) ?_
          intro a209 hF210; clear hF208
          refine any_nil (by decide +kernel) ?_
          have d211 := (hf60.pres (Pres.row (((((Pres.refl w50).ext hx83).ext hx152).ext hx181).ext hx188) hg198 hf201 (fun b hb h => by simp only [Clip] at h; omega)))
          refine ⟨⟨(some ⟨b167, o168 + (half n0) * 32, none⟩), n0 - (half n0), c0 - (half n0), l0.drop (half n0), a0 - (half n0), A194, np + 1, c195, p0 ++ ([treeD (l0.take (half n0))]), (((((hF210.nil.cons (q_get hF210 (t := 14) rfl rfl)).cons (q_get hF210 (t := 5) rfl rfl)).cons (q_get hF210 (t := 4) rfl (by first | rfl | (congr 1; omega) | (congr 1; done)))).cons (q_get hF210 (t := 1) rfl (by first | rfl | (congr 1; omega) | (congr 1; done)))).cons (q_get hF210 (t := 0) rfl (by first | rfl | (congr 1; omega) | (congr 1; done)))), (Fl.dlen (Fl.drop_eq (j := (half n0)) d211 hA169 (by omega) (digVals_drop hl32 _)) (All32.drop hl32 _)), (by have hpl : l0.length = n0 := hp53; subst hpl; exact pathD_second (by omega) (by omega) hp54), (by omega), (All32.drop hl32 _), (All32.app hp32 (All32.sing (treeD_len _))), (by omega), (ext_row ((((((Ext.refl w).trans hx52).trans hx83).trans hx152).trans hx181).trans hx188) hg198 hf201 (by omega)), r197, (Fl.drop_eq (j := (half n0)) d211 hA169 (by omega) (digVals_drop hl32 _)), (by omega), (by omega)⟩, ?_⟩
          rw [hF210.get (t := 0) rfl, hL63.get (t := 0) rfl]; simp only [sliceLen]; omega
      · skip
        refine wp_cond_false (c_false hF73 rfl (decide_eq_false hc74)) ?_
        refine wp_exit ?_
        refine exit_then ?_
        refine exit_then ?_
        refine exit_here ?_
        refine hK48 _ _ ?_
        clear hK48
        refine wp_seq_k (fun K212 hK212 => ?_)
        refine wp_region_lit ?_
        refine wpl_op (i := 0) rfl (o_val (v := (.slice Ap np cp)) hF73 rfl rfl rfl rfl (rn_move (hF73.get rfl)) ?_)
        intro a213 hF214; clear hF73
        have hf215 := r59
        refine wpl_op (i := 1) rfl (o_call hF214 rfl rfl rfl rfl (rn_call (args1 (hF214.get rfl)) rfl (by kernel_rfl)) (rev_at p0 _ hp32 hf215) ?_)
        rintro _ w216 ⟨rfl, r217, hg218⟩
        refine ⟨_, rfl, ?_⟩; intro a219 hF220; clear hF214; have z221 := hg218.size
        refine wpList_nil ?_
        refine hK212 _ _ ?_
        clear hK212
        have hF222 := ((((((hF220.nil.cons (hF220.get (t := 17) (v := (.bool (decide ((1 : Int) < ((n0 : Nat) : Int))))) rfl)).cons (hF220.get (t := 14) (v := (.bool (decide (((l.length : Nat) : Int) ≤ (at_ : Int))))) rfl)).cons (hF220.get (t := 5) (v := (.int .i64 0)) rfl)).cons (hF220.get (t := 4) (v := (.slice Ap np cp)) rfl)).cons (hF220.get (t := 1) (v := (.int .i64 (a0 : Nat))) rfl)).cons (hF220.get (t := 0) (v := (.slice A0 n0 c0)) rfl))
        clear hF220
        refine wp_seq_k (fun K223 hK223 => ?_)
        refine wp_region_lit ?_
        refine wpl_op (i := 0) rfl (o_val (v := (.slice Ap np cp)) hF222 rfl rfl rfl rfl (rn_move (hF222.get rfl)) ?_)
        intro a224 hF225; clear hF222
        refine wpl_op (i := 1) rfl (o_val (v := (.slice Ap np cp)) hF225 rfl rfl rfl rfl (rn_assign (hF225.get rfl)) ?_)
        intro a226 hF227; clear hF225
        refine wpl_op (i := 2) rfl (o_val (v := (.int .i64 0)) hF227 rfl rfl rfl rfl (rn_assign rfl) ?_)
        intro a228 hF229; clear hF227
        refine wpList_nil ?_
        refine hK223 _ _ ?_
        clear hK223
        refine wp_ret ?_
        refine ret2 hF229 rfl rfl rfl ?_
        have hdone := pathD_done (by omega) hp54
        have hpf : pathF l at_ = (pathD l an, 0) := by rw [pathF, if_neg (by omega), han, Int.toNat_natCast]
        have hrow := Fl.own (S := fun b => w.heap.size ≤ b) r217 (fun b hb => by omega) (digVals_one _)
        rw [hdone] at hrow
        exact ⟨Ap, np, cp, by rw [hpf], by rw [hpf]; exact hrow, by rw [hpf, ← hdone]; exact hp32.rev, (ext_row ((Ext.refl w).trans hx52) hg218 hf215 (by omega))⟩

theorem path_at {v : Value} {n : Nat} (l : List (List UInt8)) (at_ : Int) (w : World) (h32 : All32 l) (hf : Fl S w 32 v n (digVals l)) (hG : Glob w) (hbig : n ≤ 4398046511104) :
    Calls Tryd.prog 18 #[v, .int .i64 at_] w (fun e w' => ∃ A' n c', e = .returned (.tuple #[.slice A' n c', .int .i64 (pathF l at_).2]) ∧ Fl (fun b => w.heap.size ≤ b) w' 32 (.slice A' n c') n (digVals (pathF l at_).1) ∧ All32 (pathF l at_).1 ∧ Ext w w') := by
  have hm := Fl.dlen hf h32
  subst hm
  obtain ⟨A, c, rfl, _⟩ := hf.form
  exact path_any A c l at_ w h32 hf hG hbig

end Go.Proofs.YtgodliookpgliaaDoor
