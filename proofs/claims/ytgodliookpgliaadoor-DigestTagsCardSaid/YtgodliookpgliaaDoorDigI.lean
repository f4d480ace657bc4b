/- Contract of Path. -/
import Derived.Test.YtgodliookpgliaaDoorProg
import Derived.Test.YtgodliookpgliaaDoorDigH
import Derived.KernelRfl
namespace Go.Proofs.YtgodliookpgliaaDoor
open Go.RowKit

variable {S S' : Nat → Prop}

theorem rev_at {A : Option Addr} {n c base : Nat} (l : List (List UInt8)) (w : World) (h32 : All32 l) (hr : w.ownsRow base 26 32 (.slice A n c) n (digVals l)) :
    Calls Tryd.prog 33 #[.slice A n c] w (fun e w' => e = .returned (.tuple #[]) ∧ w'.ownsRow base 26 32 (.slice A n c) n (digVals l.reverse) ∧ w.grownBy w' (Value.slice A n c).ownBlock) := by
  rcases hr.2 with ⟨h', h0⟩ | ⟨g, cap, cur, h', _⟩
  · cases h'
    have hl : l = [] := List.eq_nil_of_length_eq_zero ((Fl.dlen (Fl.own (S := fun _ => True) hr (fun _ _ => trivial) (digVals_one _)) h32))
    subst hl
    refine (rev_nil w).mono ?_
    rintro e w' ⟨rfl, hx⟩
    exact ⟨rfl, own_ext hr hx, ⟨hx.below.os, hx.below.tape, hx.below.output, hx.size, fun i hi _ => hx.below.block i hi⟩⟩
  · cases h'
    exact rev_any g n c base l w h32 hr
def pathD (l : List (List UInt8)) (at_ : Nat) : List (List UInt8) := pathL nodeD leafD emptyD l at_
def pathF (l : List (List UInt8)) (at_ : Int) : List (List UInt8) × Int := if at_ < 0 ∨ (l.length : Int) ≤ at_ then ([], 1) else (pathD l at_.toNat, 0)
theorem pathD_first {l l0 p : List (List UInt8)} {a a0 : Nat} (h : 2 ≤ l0.length) (h2 : a0 < half l0.length) (e : pathD l a = pathD l0 a0 ++ p.reverse) : pathD l a = pathD (l0.take (half l0.length)) a0 ++ (p ++ [treeD (l0.drop (half l0.length))]).reverse := by
  rw [e, pathD, path_first _ _ _ h h2]; simp [pathD, treeD]
theorem pathD_second {l l0 p : List (List UInt8)} {a a0 : Nat} (h : 2 ≤ l0.length) (h2 : ¬ a0 < half l0.length) (e : pathD l a = pathD l0 a0 ++ p.reverse) : pathD l a = pathD (l0.drop (half l0.length)) (a0 - half l0.length) ++ (p ++ [treeD (l0.take (half l0.length))]).reverse := by
  rw [e, pathD, path_second _ _ _ h h2]; simp [pathD, treeD]
theorem pathD_done {l l0 p : List (List UInt8)} {a a0 : Nat} (h : l0.length ≤ 1) (e : pathD l a = pathD l0 a0 ++ p.reverse) : p.reverse = pathD l a := by
  rw [e, pathD, path_one _ _ _ h]; rfl

set_option maxRecDepth 100000 in
set_option maxHeartbeats 1000000 in
theorem path_any (A : Option Addr) (c : Nat) (l : List (List UInt8)) (at_ : Int) (w : World) (h32 : All32 l) (hf : Fl S w 32 (.slice A l.length c) l.length (digVals l)) (hG : Glob w) (hbig : l.length ≤ 4398046511104) :
    Calls Tryd.prog 18 #[.slice A l.length c, .int .i64 at_] w (fun e w' => ∃ A' n c', e = .returned (.tuple #[.slice A' n c', .int .i64 (pathF l at_).2]) ∧ Fl (fun b => w.heap.size ≤ b) w' 32 (.slice A' n c') n (digVals (pathF l at_).1) ∧ All32 (pathF l at_).1 ∧ Ext w w') := by
  have hc : Fl (Clip S w) w 32 (.slice A l.length c) l.length (digVals l) := hf.clip
  have hcc := (Fl.cel hc).2.1
  refine calls_enter (l := [(.slice A l.length c), (.int .i64 at_)]) Tryd.func18 rfl rfl rfl (fun aA hF => ?_)
  refine wp_seq_k (fun K1 hK1 => ?_)
  refine wp_region_lit ?_
  refine wpl_op (i := 0) rfl (o_val (v := (.slice none 0 0)) hF rfl rfl rfl rfl (rn_assign rfl) ?_)
  intro a2 hF3; clear hF
  refine wpl_op (i := 1) rfl (o_val (v := (.int .i64 0)) hF3 rfl rfl rfl rfl (rn_assign rfl) ?_)
  intro a4 hF5; clear hF3
  refine wpList_nil ?_
  refine hK1 _ _ ?_
  clear hK1
  refine wp_seq_k (fun K6 hK6 => ?_)
  refine wp_seq_k (fun K7 hK7 => ?_)
  refine wp_region_lit ?_
  refine wpl_op (i := 0) rfl (o_val (v := (.int .i64 at_)) hF5 rfl rfl rfl rfl (rn_move (hF5.get rfl)) ?_)
  intro a8 hF9; clear hF5
  refine wpl_op (i := 1) rfl (o_val (v := (.bool (decide ((at_ : Int) < (0 : Int))))) hF9 rfl rfl rfl rfl (rn_lss (hF9.get rfl) rfl) ?_)
  intro a10 hF11; clear hF9
  refine wpl_op (i := 2) rfl (o_val (v := (.bool (decide ((at_ : Int) < (0 : Int))))) hF11 rfl rfl rfl rfl (rn_move (hF11.get rfl)) ?_)
  intro a12 hF13; clear hF11
  by_cases hc14 : (at_ : Int) < (0 : Int)
  · skip
    refine wpl_op (i := 3) rfl (o_skip hF13 rfl (unwanted_guard rfl rfl rfl hF13 rfl (decide_eq_true hc14) rfl) rfl rfl ?_)
    intro a15 hF16; clear hF13
    refine wpl_op (i := 4) rfl (o_skip hF16 rfl (unwanted_guard rfl rfl rfl hF16 rfl (decide_eq_true hc14) rfl) rfl rfl ?_)
    intro a17 hF18; clear hF16
    refine wpl_op (i := 5) rfl (o_skip hF18 rfl (unwanted_guard rfl rfl rfl hF18 rfl (decide_eq_true hc14) rfl) rfl rfl ?_)
    intro a19 hF20; clear hF18
    refine wpl_op (i := 6) rfl (o_skip hF20 rfl (unwanted_guard rfl rfl rfl hF20 rfl (decide_eq_true hc14) rfl) rfl rfl ?_)
    intro a21 hF22; clear hF20
    refine wpl_op (i := 7) rfl (o_val (v := (.bool true)) hF22 rfl rfl rfl rfl (rn_pickT (c_true hF22 rfl (decide_eq_true hc14)) rfl) ?_)
    intro a23 hF24; clear hF22
    refine wpList_nil ?_
    refine hK7 _ _ ?_
    clear hK7
    have hF25 := (((((hF24.nil.cons (hF24.get (t := 14) (v := (.bool true)) rfl)).cons (hF24.get (t := 5) (v := (.int .i64 0)) rfl)).cons (hF24.get (t := 4) (v := (.slice none 0 0)) rfl)).cons (hF24.get (t := 1) (v := (.int .i64 at_)) rfl)).cons (hF24.get (t := 0) (v := (.slice A l.length c)) rfl))
    clear hF24
    refine wp_cond_true (c_true hF25 rfl rfl) ?_
    refine wp_seq_k (fun K26 hK26 => ?_)
    refine wp_region_lit ?_
    refine wpl_op (i := 0) rfl (o_val (v := (.slice none 0 0)) hF25 rfl rfl rfl rfl (rn_assign rfl) ?_)
    intro a27 hF28; clear hF25
    refine wpl_op (i := 1) rfl (o_val (v := (.int .i64 1)) hF28 rfl rfl rfl rfl (rn_assign rfl) ?_)
    intro a29 hF30; clear hF28
    refine wpList_nil ?_
    refine hK26 _ _ ?_
    clear hK26
    refine wp_ret ?_
    refine ret_then ?_
    refine ret2 hF30 rfl rfl rfl ?_
    exact ⟨none, 0, 0, by rw [pathF, if_pos (by omega)], by rw [pathF, if_pos (by omega)]; exact Fl.nil _, by rw [pathF, if_pos (by omega)]; exact All32.nil, (Ext.refl w)⟩
  · skip
    refine wpl_op (i := 3) rfl (o_val (v := (.int .i64 at_)) hF13 rfl (wanted_guard rfl rfl rfl hF13 rfl (decide_eq_false hc14) rfl) rfl rfl (rn_move (hF13.get rfl)) ?_)
    intro a31 hF32; clear hF13
    refine wpl_op (i := 4) rfl (o_val (v := (.slice A l.length c)) hF32 rfl (wanted_guard rfl rfl rfl hF32 rfl (decide_eq_false hc14) rfl) rfl rfl (rn_move (hF32.get rfl)) ?_)
    intro a33 hF34; clear hF32
    refine wpl_op (i := 5) rfl (o_val (v := (.int .i64 (l.length : Nat))) hF34 rfl (wanted_guard rfl rfl rfl hF34 rfl (decide_eq_false hc14) rfl) rfl rfl (rn_len_slice Tryd.underlying30 (hF34.get rfl)) ?_)
    intro a35 hF36; clear hF34
    refine wpl_op (i := 6) rfl (o_val (v := (.bool (decide (((l.length : Nat) : Int) ≤ (at_ : Int))))) hF36 rfl (wanted_guard rfl rfl rfl hF36 rfl (decide_eq_false hc14) rfl) rfl rfl (rn_geq (hF36.get rfl) (hF36.get rfl)) ?_)
    intro a37 hF38; clear hF36
    refine wpl_op (i := 7) rfl (o_val (v := (.bool (decide (((l.length : Nat) : Int) ≤ (at_ : Int))))) hF38 rfl rfl rfl rfl (rn_pickF (c_false hF38 rfl (decide_eq_false hc14)) (hF38.get rfl)) ?_)
    intro a39 hF40; clear hF38
    refine wpList_nil ?_
    refine hK7 _ _ ?_
    clear hK7
    have hF41 := (((((hF40.nil.cons (hF40.get (t := 14) (v := (.bool (decide (((l.length : Nat) : Int) ≤ (at_ : Int))))) rfl)).cons (hF40.get (t := 5) (v := (.int .i64 0)) rfl)).cons (hF40.get (t := 4) (v := (.slice none 0 0)) rfl)).cons (hF40.get (t := 1) (v := (.int .i64 at_)) rfl)).cons (hF40.get (t := 0) (v := (.slice A l.length c)) rfl))
    clear hF40
    by_cases hc42 : ((l.length : Nat) : Int) ≤ (at_ : Int)
    · skip
      refine wp_cond_true (c_true hF41 rfl (decide_eq_true hc42)) ?_
      refine wp_seq_k (fun K43 hK43 => ?_)
      refine wp_region_lit ?_
      refine wpl_op (i := 0) rfl (o_val (v := (.slice none 0 0)) hF41 rfl rfl rfl rfl (rn_assign rfl) ?_)
      intro a44 hF45; clear hF41
      refine wpl_op (i := 1) rfl (o_val (v := (.int .i64 1)) hF45 rfl rfl rfl rfl (rn_assign rfl) ?_)
      intro a46 hF47; clear hF45
      refine wpList_nil ?_
      refine hK43 _ _ ?_
      clear hK43
      refine wp_ret ?_
      refine ret_then ?_
      refine ret2 hF47 rfl rfl rfl ?_
      exact ⟨none, 0, 0, by rw [pathF, if_pos (by omega)], by rw [pathF, if_pos (by omega)]; exact Fl.nil _, by rw [pathF, if_pos (by omega)]; exact All32.nil, (Ext.refl w)⟩
    · skip
      refine wp_cond_false (c_false hF41 rfl (decide_eq_false hc42)) ?_
      refine wp_skip ?_
      refine hK6 _ _ ?_
      clear hK6
      refine wp_seq_k (fun K48 hK48 => ?_)
      refine wp_block ?_
      obtain ⟨an, han⟩ : ∃ an : Nat, at_ = (an : Int) := ⟨at_.toNat, by omega⟩
      refine wp_loop (fun a' W => ∃ (A0 : Option Addr) (n0 : Nat) (c0 : Nat) (l0 : List (List UInt8)) (a0 : Nat) (Ap : Option Addr) (np : Nat) (cp : Nat) (p0 : List (List UInt8)), Sl 50 [(0, (.slice A0 n0 c0)), (1, (.int .i64 (a0 : Nat))), (4, (.slice Ap np cp)), (5, (.int .i64 0)), (14, (.bool (decide (((l.length : Nat) : Int) ≤ (at_ : Int)))))] a' ∧ l0.length = n0 ∧ pathD l an = pathD l0 a0 ++ p0.reverse ∧ a0 < n0 ∧ All32 l0 ∧ All32 p0 ∧ np + n0 ≤ l.length ∧ Ext w W ∧ W.ownsRow w.heap.size 26 32 (.slice Ap np cp) np (digVals p0) ∧ Fl (Clip S w) W 32 (.slice A0 n0 c0) n0 (digVals l0) ∧ w.heap.size ≤ W.heap.size) (fun a' _ => (sliceLen (a'.eval (.tmp 0)))) ⟨A, l.length, c, l, an, none, 0, 0, [], (((((hF41.nil.cons (q_get hF41 (t := 14) rfl rfl)).cons (q_get hF41 (t := 5) rfl rfl)).cons (q_get hF41 (t := 4) rfl (by first | rfl | (congr 1; omega) | (congr 1; done)))).cons (q_get hF41 (t := 1) rfl (by first | rfl | (congr 1; omega) | (congr 1; done)))).cons (q_get hF41 (t := 0) rfl (by first | rfl | (congr 1; omega) | (congr 1; done)))), rfl, (List.append_nil _).symm, (by omega), h32, All32.nil, (by omega), (Ext.refl w), (own_nil w w.heap.size 26 32), hc, (by omega)⟩ ?_
      clear hF41
      rintro a49 w50 ⟨A0, n0, c0, l0, a0, Ap, np, cp, p0, hF51, hp53, hp54, hp55, hp56, hp57, hp58, hx52, r59, hf60, hf61⟩
      have hL62 := hF51
      have z63 := hx52.size
      have z64 := own_form0 r59
      have hl32 := hp56
      have hp32 := hp57
      have hcc1 := (Fl.cel hf60).2.1
      refine wp_seq_k (fun K65 hK65 => ?_)
      refine wp_seq_k (fun K66 hK66 => ?_)
      refine wp_region_lit ?_
      refine wpl_op (i := 0) rfl (o_val (v := (.slice A0 n0 c0)) hF51 rfl rfl rfl rfl (rn_move (hF51.get rfl)) ?_)
      intro a67 hF68; clear hF51
      refine wpl_op (i := 1) rfl (o_val (v := (.int .i64 (n0 : Nat))) hF68 rfl rfl rfl rfl (rn_len_slice Tryd.underlying30 (hF68.get rfl)) ?_)
      intro a69 hF70; clear hF68
      refine wpl_op (i := 2) rfl (o_val (v := (.bool (decide ((1 : Int) < ((n0 : Nat) : Int))))) hF70 rfl rfl rfl rfl (rn_gtr (hF70.get rfl) rfl) ?_)
      intro a71 hF72; clear hF70
      refine wpList_nil ?_
      refine hK66 _ _ ?_
      clear hK66
      by_cases hc73 : (1 : Int) < ((n0 : Nat) : Int)
      · skip
        refine wp_cond_true (c_true hF72 rfl (decide_eq_true hc73)) ?_
        refine wp_skip ?_
        refine hK65 _ _ ?_
        clear hK65
        refine wp_block ?_
        refine wp_seq_k (fun K74 hK74 => ?_)
        refine wp_region_lit ?_
        refine wpl_op (i := 0) rfl (o_val (v := (.slice A0 n0 c0)) hF72 rfl rfl rfl rfl (rn_move (hF72.get rfl)) ?_)
        intro a75 hF76; clear hF72
        refine wpl_op (i := 1) rfl (o_val (v := (.int .i64 (n0 : Nat))) hF76 rfl rfl rfl rfl (rn_len_slice Tryd.underlying30 (hF76.get rfl)) ?_)
        intro a77 hF78; clear hF76
        have z79 := half_lt (n := n0) (by omega); have z80 := half_pos n0
        refine wpl_op (i := 2) rfl (o_call hF78 rfl rfl rfl rfl (rn_call (args1 (hF78.get rfl)) rfl (by kernel_rfl)) (half_any n0 _ (by omega) (by omega)) ?_)
        rintro _ w81 ⟨rfl, hx82⟩
        refine ⟨_, rfl, ?_⟩; intro a83 hF84; clear hF78; have z85 := hx82.size
        refine wpl_op (i := 3) rfl (o_val (v := (.int .i64 (half n0 : Nat))) hF84 rfl rfl rfl rfl (rn_assign (hF84.get rfl)) ?_)
        intro a86 hF87; clear hF84
        refine wpList_nil ?_
        refine hK74 _ _ ?_
        clear hK74
        have hF88 := (((((((hF87.nil.cons (hF87.get (t := 6) (v := (.int .i64 (half n0 : Nat))) rfl)).cons (hF87.get (t := 17) (v := (.bool (decide ((1 : Int) < ((n0 : Nat) : Int))))) rfl)).cons (hF87.get (t := 14) (v := (.bool (decide (((l.length : Nat) : Int) ≤ (at_ : Int))))) rfl)).cons (hF87.get (t := 5) (v := (.int .i64 0)) rfl)).cons (hF87.get (t := 4) (v := (.slice Ap np cp)) rfl)).cons (hF87.get (t := 1) (v := (.int .i64 (a0 : Nat))) rfl)).cons (hF87.get (t := 0) (v := (.slice A0 n0 c0)) rfl))
        clear hF87
        refine wp_seq_k (fun K89 hK89 => ?_)
        refine wp_region_lit ?_
        refine wpl_op (i := 0) rfl (o_val (v := (.int .i64 (a0 : Nat))) hF88 rfl rfl rfl rfl (rn_move (hF88.get rfl)) ?_)
        intro a90 hF91; clear hF88
        refine wpl_op (i := 1) rfl (o_val (v := (.int .i64 (half n0 : Nat))) hF91 rfl rfl rfl rfl (rn_move (hF91.get rfl)) ?_)
        intro a92 hF93; clear hF91
        refine wpl_op (i := 2) rfl (o_val (v := (.bool (decide (((a0 : Nat) : Int) < ((half n0 : Nat) : Int))))) hF93 rfl rfl rfl rfl (rn_lss (hF93.get rfl) (hF93.get rfl)) ?_)
        intro a94 hF95; clear hF93
        refine wpList_nil ?_
        refine hK89 _ _ ?_
        clear hK89
        by_cases hc96 : ((a0 : Nat) : Int) < ((half n0 : Nat) : Int)
        · skip
          refine wp_cond_true (c_true hF95 rfl (decide_eq_true hc96)) ?_
          have hx98 : ∃ W, w81.drew = W ∧ Ext w81 W := ⟨_, rfl, (Ext.refl _).drew⟩
          obtain ⟨w97, e99, hx98⟩ := hx98
          have z100 := hx98.size
          refine any_start (fun W => True) (fun i => false) 12 #[false, false, false, false, false, false, false, false, false, false, false, false] rfl rfl rfl ?_
          rw [e99]; clear e99
          refine any_pure (i := 0) (v := (.slice Ap np cp)) hF95 (by decide +kernel) (by decide +kernel) rfl rfl rfl rfl (fun _ _ _ _ h => h) rfl (fun W => (rn_move (hF95.get rfl))) ?_
          intro a101 hF102; clear hF95
          refine any_pure (i := 1) (v := (.slice A0 n0 c0)) hF102 (by decide +kernel) (by decide +kernel) rfl rfl rfl rfl (fun _ _ _ _ h => h) rfl (fun W => (rn_move (hF102.get rfl))) ?_
          intro a103 hF104; clear hF102
          refine any_pure (i := 2) (v := (.int .i64 (half n0 : Nat))) hF104 (by decide +kernel) (by decide +kernel) rfl rfl rfl rfl (fun _ _ _ _ h => h) rfl (fun W => (rn_move (hF104.get rfl))) ?_
          intro a105 hF106; clear hF104
          have d110 := ((hf60.ext hx82).ext hx98)
          obtain ⟨b107, o108, hA109, -⟩ := Fl.at d110 (by omega)
          refine any_pure (i := 3) (v := (.slice (some ⟨b107, o108 + (half n0) * 32, none⟩) (n0 - (half n0)) (c0 - (half n0)))) hF106 (by decide +kernel) (by decide +kernel) rfl rfl rfl rfl (fun _ _ _ _ h => h) rfl (fun W => (rn_sliceLo (l := (half n0)) Tryd.underlying30 (by kernel_rfl : (Tryd.prog.info? 26).map (·.size) = some 32) ((hF106.get rfl).trans (by rw [hA109])) (hF106.get rfl) (by omega : (half n0) ≤ n0) (by omega : (half n0) < c0))) ?_
          intro a111 hF112; clear hF106
          refine any_pure (i := 7) (v := (.slice A0 n0 c0)) hF112 (by decide +kernel) (by decide +kernel) rfl rfl rfl rfl (fun _ _ _ _ h => h) rfl (fun W => (rn_move (hF112.get rfl))) ?_
          intro a113 hF114; clear hF112
          refine any_pure (i := 8) (v := (.int .i64 (half n0 : Nat))) hF114 (by decide +kernel) (by decide +kernel) rfl rfl rfl rfl (fun _ _ _ _ h => h) rfl (fun W => (rn_move (hF114.get rfl))) ?_
          intro a115 hF116; clear hF114
          refine any_pure (i := 9) (v := (.slice A0 (half n0) c0)) hF116 (by decide +kernel) (by decide +kernel) rfl rfl rfl rfl (fun _ _ _ _ h => h) rfl (fun W => (rn_sliceHi Tryd.underlying30 (by kernel_rfl : (Tryd.prog.info? 26).map (·.size) = some 32) (hF116.get rfl) (hF116.get rfl) (by omega : (0 : Int) ≤ (half n0 : Nat)) (by omega : ((half n0 : Nat) : Int) ≤ ((c0 : Nat) : Int)))) ?_
          intro a117 hF118; clear hF116
          refine any_one (i := 4) (by decide +kernel) rfl ?_
          have hf119 := (Fl.drop_eq (j := (half n0)) d110 hA109 (by omega) (digVals_drop hl32 _))
          refine o_call hF118 rfl rfl rfl rfl (rn_call (args1 (hF118.get rfl)) rfl (by kernel_rfl)) (tree_at (l0.drop (half n0)) _ (n := n0 - (half n0)) (v := (.slice (some ⟨b107, o108 + (half n0) * 32, none⟩) (n0 - (half n0)) (c0 - (half n0)))) (All32.drop hl32 _) hf119 (hG.ext ((((Ext.refl w).trans hx52).trans hx82).trans hx98))) ?_
          rintro _ w120 ⟨rfl, hx121⟩
          refine ⟨_, rfl, ?_⟩; intro a122 hF123; clear hF118; have z124 := hx121.size
          refine ⟨fun _ _ => trivial, ?_⟩
          refine any_one (i := 5) (by decide +kernel) rfl ?_
          refine o_new (fun g => (.slice (some ⟨g, 0, none⟩) 1 1)) (byteVals ((treeD (l0.drop (half n0))))) 26 hF123 rfl rfl rfl rfl (rn_buildSlice (parts1 (hF123.get rfl)) (build_wholeE (vs := [(.agg (byteVals (treeD (l0.drop (half n0)))).toArray)]) El30 rfl rfl (fun v hv => by rw [List.mem_singleton.1 hv]; exact (byteVals_len (treeD_len _))) (by decide) (by decide) (by simp [Value.cells, byteVals]))) ?_
          intro g125 w126 a131 hF132 z129 z130 b127 hx128; clear hF123
          refine ⟨fun _ _ => trivial, ?_⟩
          refine any_one (i := 6) (by decide +kernel) rfl ?_
          have r133 := (own_ext (own_ext (own_ext (own_ext r59 hx82) hx98) hx121) hx128)
          have hf141 := r133
          refine o_appA (zs := digVals (p0 ++ ([treeD (l0.drop (half n0))]))) El30 hF132 rfl rfl rfl rfl rfl (hF132.get rfl) (hF132.get rfl) hf141 (Fl.cel (Fl.digblk (S := fun b => b = g125) b127 (All32.sing (treeD_len _)) (by simp [digVals, byteVals]))).2.2 (by omega) (by omega) (by omega) (digVals_app _ _) ?_
          intro A134 c135 w136 a142 hF143 r137 hg138 z139 z140; clear hF132; have z144 := hg138.size
          refine ⟨fun _ _ => trivial, ?_⟩
          refine any_pure (i := 10) (v := (.slice A134 (np + 1) c135)) hF143 (by decide +kernel) (by decide +kernel) rfl rfl rfl rfl (fun _ _ _ _ h => h) rfl (fun W => (rn_assign (hF143.get rfl))) ?_
          intro a145 hF146; clear hF143
          refine any_pure (i := 11) (v := (.slice A0 (half n0) c0)) hF146 (by decide +kernel) (by decide +kernel) rfl rfl rfl rfl (fun _ _ _ _ h => h) rfl (fun W => (rn_assign (hF146.get rfl))) ?_
          intro a147 hF148; clear hF146
          refine any_nil (by decide +kernel) ?_
          have d149 := (hf60.pres (Pres.row (((((Pres.refl w50).ext hx82).ext hx98).ext hx121).ext hx128) hg138 hf141 (fun b hb h => by simp only [Clip, Fr] at h; omega)))
          refine ⟨⟨A0, (half n0), c0, l0.take (half n0), a0, A134, np + 1, c135, p0 ++ ([treeD (l0.drop (half n0))]), (((((hF148.nil.cons (q_get hF148 (t := 14) rfl rfl)).cons (q_get hF148 (t := 5) rfl rfl)).cons (q_get hF148 (t := 4) rfl (by first | rfl | (congr 1; omega) | (congr 1; done)))).cons (q_get hF148 (t := 1) rfl (by first | rfl | (congr 1; omega) | (congr 1; done)))).cons (q_get hF148 (t := 0) rfl (by first | rfl | (congr 1; omega) | (congr 1; done)))), (Fl.dlen (Fl.take_eq (j := (half n0)) d149 (by omega) (digVals_take hl32 _)) (All32.take hl32 _)), (by have hpl : l0.length = n0 := hp53; subst hpl; exact pathD_first (by omega) (by omega) hp54), (by omega), (All32.take hl32 _), (All32.app hp32 (All32.sing (treeD_len _))), (by omega), (ext_row ((((((Ext.refl w).trans hx52).trans hx82).trans hx98).trans hx121).trans hx128) hg138 hf141 (by omega)), r137, (Fl.take_eq (j := (half n0)) d149 (by omega) (digVals_take hl32 _)), (by omega)⟩, ?_⟩
          rw [hF148.get (t := 0) rfl, hL62.get (t := 0) rfl]; simp only [sliceLen]; omega
        · skip
          refine wp_cond_false (c_false hF95 rfl (decide_eq_false hc96)) ?_
          have hx151 : ∃ W, w81.drew = W ∧ Ext w81 W := ⟨_, rfl, (Ext.refl _).drew⟩
          obtain ⟨w150, e152, hx151⟩ := hx151
          have z153 := hx151.size
          refine any_start (fun W => True) (fun i => false) 16 #[false, false, false, false, false, false, false, false, false, false, false, false, false, false, false, false] rfl rfl rfl ?_
          rw [e152]; clear e152
          refine any_pure (i := 0) (v := (.slice Ap np cp)) hF95 (by decide +kernel) (by decide +kernel) rfl rfl rfl rfl (fun _ _ _ _ h => h) rfl (fun W => (rn_move (hF95.get rfl))) ?_
          intro a154 hF155; clear hF95
          refine any_pure (i := 1) (v := (.slice A0 n0 c0)) hF155 (by decide +kernel) (by decide +kernel) rfl rfl rfl rfl (fun _ _ _ _ h => h) rfl (fun W => (rn_move (hF155.get rfl))) ?_
          intro a156 hF157; clear hF155
          refine any_pure (i := 2) (v := (.int .i64 (half n0 : Nat))) hF157 (by decide +kernel) (by decide +kernel) rfl rfl rfl rfl (fun _ _ _ _ h => h) rfl (fun W => (rn_move (hF157.get rfl))) ?_
          intro a158 hF159; clear hF157
          refine any_pure (i := 3) (v := (.slice A0 (half n0) c0)) hF159 (by decide +kernel) (by decide +kernel) rfl rfl rfl rfl (fun _ _ _ _ h => h) rfl (fun W => (rn_sliceHi Tryd.underlying30 (by kernel_rfl : (Tryd.prog.info? 26).map (·.size) = some 32) (hF159.get rfl) (hF159.get rfl) (by omega : (0 : Int) ≤ (half n0 : Nat)) (by omega : ((half n0 : Nat) : Int) ≤ ((c0 : Nat) : Int)))) ?_
          intro a160 hF161; clear hF159
          refine any_pure (i := 7) (v := (.slice A0 n0 c0)) hF161 (by decide +kernel) (by decide +kernel) rfl rfl rfl rfl (fun _ _ _ _ h => h) rfl (fun W => (rn_move (hF161.get rfl))) ?_
          intro a162 hF163; clear hF161
          refine any_pure (i := 8) (v := (.int .i64 (half n0 : Nat))) hF163 (by decide +kernel) (by decide +kernel) rfl rfl rfl rfl (fun _ _ _ _ h => h) rfl (fun W => (rn_move (hF163.get rfl))) ?_
          intro a164 hF165; clear hF163
          have d169 := ((hf60.ext hx82).ext hx151)
          obtain ⟨b166, o167, hA168, -⟩ := Fl.at d169 (by omega)
          refine any_pure (i := 9) (v := (.slice (some ⟨b166, o167 + (half n0) * 32, none⟩) (n0 - (half n0)) (c0 - (half n0)))) hF165 (by decide +kernel) (by decide +kernel) rfl rfl rfl rfl (fun _ _ _ _ h => h) rfl (fun W => (rn_sliceLo (l := (half n0)) Tryd.underlying30 (by kernel_rfl : (Tryd.prog.info? 26).map (·.size) = some 32) ((hF165.get rfl).trans (by rw [hA168])) (hF165.get rfl) (by omega : (half n0) ≤ n0) (by omega : (half n0) < c0))) ?_
          intro a170 hF171; clear hF165
          refine any_pure (i := 10) (v := (.int .i64 (a0 : Nat))) hF171 (by decide +kernel) (by decide +kernel) rfl rfl rfl rfl (fun _ _ _ _ h => h) rfl (fun W => (rn_move (hF171.get rfl))) ?_
          intro a172 hF173; clear hF171
          refine any_pure (i := 11) (v := (.int .i64 (half n0 : Nat))) hF173 (by decide +kernel) (by decide +kernel) rfl rfl rfl rfl (fun _ _ _ _ h => h) rfl (fun W => (rn_move (hF173.get rfl))) ?_
          intro a174 hF175; clear hF173
          refine any_pure (i := 12) (v := (.int .i64 (a0 - (half n0) : Nat))) hF175 (by decide +kernel) (by decide +kernel) rfl rfl rfl rfl (fun _ _ _ _ h => h) rfl (fun W => (rn_subN (a := a0) (b := half n0) (hF175.get rfl) (hF175.get rfl) (by omega) (by omega))) ?_
          intro a176 hF177; clear hF175
          refine any_one (i := 4) (by decide +kernel) rfl ?_
          have hf178 := (Fl.take_eq (j := (half n0)) d169 (by omega) (digVals_take hl32 _))
          refine o_call hF177 rfl rfl rfl rfl (rn_call (args1 (hF177.get rfl)) rfl (by kernel_rfl)) (tree_at (l0.take (half n0)) _ (n := (half n0)) (v := (.slice A0 (half n0) c0)) (All32.take hl32 _) hf178 (hG.ext ((((Ext.refl w).trans hx52).trans hx82).trans hx151))) ?_
          rintro _ w179 ⟨rfl, hx180⟩
          refine ⟨_, rfl, ?_⟩; intro a181 hF182; clear hF177; have z183 := hx180.size
          refine ⟨fun _ _ => trivial, ?_⟩
          refine any_one (i := 5) (by decide +kernel) rfl ?_
          refine o_new (fun g => (.slice (some ⟨g, 0, none⟩) 1 1)) (byteVals ((treeD (l0.take (half n0))))) 26 hF182 rfl rfl rfl rfl (rn_buildSlice (parts1 (hF182.get rfl)) (build_wholeE (vs := [(.agg (byteVals (treeD (l0.take (half n0)))).toArray)]) El30 rfl rfl (fun v hv => by rw [List.mem_singleton.1 hv]; exact (byteVals_len (treeD_len _))) (by decide) (by decide) (by simp [Value.cells, byteVals]))) ?_
          intro g184 w185 a190 hF191 z188 z189 b186 hx187; clear hF182
          refine ⟨fun _ _ => trivial, ?_⟩
          refine any_one (i := 6) (by decide +kernel) rfl ?_
          have r192 := (own_ext (own_ext (own_ext (own_ext r59 hx82) hx151) hx180) hx187)
          have hf200 := r192
          refine o_appA (zs := digVals (p0 ++ ([treeD (l0.take (half n0))]))) El30 hF191 rfl rfl rfl rfl rfl (hF191.get rfl) (hF191.get rfl) hf200 (Fl.cel (Fl.digblk (S := fun b => b = g184) b186 (All32.sing (treeD_len _)) (by simp [digVals, byteVals]))).2.2 (by omega) (by omega) (by omega) (digVals_app _ _) ?_
          intro A193 c194 w195 a201 hF202 r196 hg197 z198 z199; clear hF191; have z203 := hg197.size
          refine ⟨fun _ _ => trivial, ?_⟩
          refine any_pure (i := 13) (v := (.slice A193 (np + 1) c194)) hF202 (by decide +kernel) (by decide +kernel) rfl rfl rfl rfl (fun _ _ _ _ h => h) rfl (fun W => (rn_assign (hF202.get rfl))) ?_
          intro a204 hF205; clear hF202
          refine any_pure (i := 14) (v := (.slice (some ⟨b166, o167 + (half n0) * 32, none⟩) (n0 - (half n0)) (c0 - (half n0)))) hF205 (by decide +kernel) (by decide +kernel) rfl rfl rfl rfl (fun _ _ _ _ h => h) rfl (fun W => (rn_assign (hF205.get rfl))) ?_
          intro a206 hF207; clear hF205
          refine any_pure (i := 15) (v := (.int .i64 (a0 - (half n0) : Nat))) hF207 (by decide +kernel) (by decide +kernel) rfl rfl rfl rfl (fun _ _ _ _ h => h) rfl (fun W => (rn_assign (hF207.get rfl))) ?_
          intro a208 hF209; clear hF207
          refine any_nil (by decide +kernel) ?_
          have d210 := (hf60.pres (Pres.row (((((Pres.refl w50).ext hx82).ext hx151).ext hx180).ext hx187) hg197 hf200 (fun b hb h => by simp only [Clip, Fr] at h; omega)))
          refine ⟨⟨(some ⟨b166, o167 + (half n0) * 32, none⟩), n0 - (half n0), c0 - (half n0), l0.drop (half n0), a0 - (half n0), A193, np + 1, c194, p0 ++ ([treeD (l0.take (half n0))]), (((((hF209.nil.cons (q_get hF209 (t := 14) rfl rfl)).cons (q_get hF209 (t := 5) rfl rfl)).cons (q_get hF209 (t := 4) rfl (by first | rfl | (congr 1; omega) | (congr 1; done)))).cons (q_get hF209 (t := 1) rfl (by first | rfl | (congr 1; omega) | (congr 1; done)))).cons (q_get hF209 (t := 0) rfl (by first | rfl | (congr 1; omega) | (congr 1; done)))), (Fl.dlen (Fl.drop_eq (j := (half n0)) d210 hA168 (by omega) (digVals_drop hl32 _)) (All32.drop hl32 _)), (by have hpl : l0.length = n0 := hp53; subst hpl; exact pathD_second (by omega) (by omega) hp54), (by omega), (All32.drop hl32 _), (All32.app hp32 (All32.sing (treeD_len _))), (by omega), (ext_row ((((((Ext.refl w).trans hx52).trans hx82).trans hx151).trans hx180).trans hx187) hg197 hf200 (by omega)), r196, (Fl.drop_eq (j := (half n0)) d210 hA168 (by omega) (digVals_drop hl32 _)), (by omega)⟩, ?_⟩
          rw [hF209.get (t := 0) rfl, hL62.get (t := 0) rfl]; simp only [sliceLen]; omega
      · skip
        refine wp_cond_false (c_false hF72 rfl (decide_eq_false hc73)) ?_
        refine wp_exit ?_
        refine exit_then ?_
        refine exit_then ?_
        refine exit_here ?_
        refine hK48 _ _ ?_
        clear hK48
        refine wp_seq_k (fun K211 hK211 => ?_)
        refine wp_region_lit ?_
        refine wpl_op (i := 0) rfl (o_val (v := (.slice Ap np cp)) hF72 rfl rfl rfl rfl (rn_move (hF72.get rfl)) ?_)
        intro a212 hF213; clear hF72
        have hf214 := r59
        refine wpl_op (i := 1) rfl (o_call hF213 rfl rfl rfl rfl (rn_call (args1 (hF213.get rfl)) rfl (by kernel_rfl)) (rev_at p0 _ hp32 hf214) ?_)
        rintro _ w215 ⟨rfl, r216, hg217⟩
        refine ⟨_, rfl, ?_⟩; intro a218 hF219; clear hF213; have z220 := hg217.size
        refine wpList_nil ?_
        refine hK211 _ _ ?_
        clear hK211
        have hF221 := ((((((hF219.nil.cons (hF219.get (t := 17) (v := (.bool (decide ((1 : Int) < ((n0 : Nat) : Int))))) rfl)).cons (hF219.get (t := 14) (v := (.bool (decide (((l.length : Nat) : Int) ≤ (at_ : Int))))) rfl)).cons (hF219.get (t := 5) (v := (.int .i64 0)) rfl)).cons (hF219.get (t := 4) (v := (.slice Ap np cp)) rfl)).cons (hF219.get (t := 1) (v := (.int .i64 (a0 : Nat))) rfl)).cons (hF219.get (t := 0) (v := (.slice A0 n0 c0)) rfl))
        clear hF219
        refine wp_seq_k (fun K222 hK222 => ?_)
        refine wp_region_lit ?_
        refine wpl_op (i := 0) rfl (o_val (v := (.slice Ap np cp)) hF221 rfl rfl rfl rfl (rn_move (hF221.get rfl)) ?_)
        intro a223 hF224; clear hF221
        refine wpl_op (i := 1) rfl (o_val (v := (.slice Ap np cp)) hF224 rfl rfl rfl rfl (rn_assign (hF224.get rfl)) ?_)
        intro a225 hF226; clear hF224
        refine wpl_op (i := 2) rfl (o_val (v := (.int .i64 0)) hF226 rfl rfl rfl rfl (rn_assign rfl) ?_)
        intro a227 hF228; clear hF226
        refine wpList_nil ?_
        refine hK222 _ _ ?_
        clear hK222
        refine wp_ret ?_
        refine ret2 hF228 rfl rfl rfl ?_
        have hdone := pathD_done (by omega) hp54
        have hpf : pathF l at_ = (pathD l an, 0) := by rw [pathF, if_neg (by omega), han, Int.toNat_natCast]
        have hrow := Fl.own (S := fun b => w.heap.size ≤ b) r216 (fun b hb => by omega) (digVals_one _)
        rw [hdone] at hrow
        exact ⟨Ap, np, cp, by rw [hpf], by rw [hpf]; exact hrow, by rw [hpf, ← hdone]; exact hp32.rev, (ext_row ((Ext.refl w).trans hx52) hg217 hf214 (by omega))⟩

theorem path_at {v : Value} {n : Nat} (l : List (List UInt8)) (at_ : Int) (w : World) (h32 : All32 l) (hf : Fl S w 32 v n (digVals l)) (hG : Glob w) (hbig : n ≤ 4398046511104) :
    Calls Tryd.prog 18 #[v, .int .i64 at_] w (fun e w' => ∃ A' n c', e = .returned (.tuple #[.slice A' n c', .int .i64 (pathF l at_).2]) ∧ Fl (fun b => w.heap.size ≤ b) w' 32 (.slice A' n c') n (digVals (pathF l at_).1) ∧ All32 (pathF l at_).1 ∧ Ext w w') := by
  have hm := Fl.dlen hf h32
  subst hm
  obtain ⟨A, c, rfl, _⟩ := hf.form
  exact path_any A c l at_ w h32 hf hG hbig

end Go.Proofs.YtgodliookpgliaaDoor
