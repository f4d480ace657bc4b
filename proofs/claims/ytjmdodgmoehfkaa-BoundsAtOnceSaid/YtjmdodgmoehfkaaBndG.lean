/- Contracts of slices.Repeat and slices.Reverse (ints). -/
import Derived.Test.YtjmdodgmoehfkaaProg
import Derived.Test.YtjmdodgmoehfkaaBndB
import Derived.Test.YtjmdodgmoehfkaaBndF
import Derived.Test.YtjmdodgmoehfkaaWk13
import Derived.Test.YtjmdodgmoehfkaaShelf
import Derived.Test.YtjmdodgmoehfkaaGrow
import Derived.KernelRfl
namespace Go.Proofs.Ytjmdodgmoehfkaa
open Go.RowKit

variable {S S' : Nat → Prop}

theorem mul_one (n : Nat) (hn : n ≤ 4096) (w : World) : Calls Try.prog 41 #[.int .u64 1, .int .u64 (n : Nat)] w (fun e w' => e = .returned (.tuple #[.int .u64 0, .int .u64 (n : Nat)]) ∧ Ext w w') := by
  refine (Try.bits_Mul 1 n (by omega) (by omega) w).mono ?_
  rintro e w' ⟨rfl, rfl⟩
  refine ⟨?_, Ext.refl _⟩
  rw [Nat.one_mul, Nat.div_eq_of_lt (by omega), Nat.mod_eq_of_lt (by omega)]
  rfl
set_option maxRecDepth 100000 in
set_option maxHeartbeats 1000000 in
theorem repeat_int (A : Option Addr) (c : Nat) (u : Int) (n : Nat) (w : World) (hf : Fl S w 1 (.slice A 1 c) 1 (intVals [u])) (h1 : 1 ≤ n) (h2 : n ≤ 4096) :
    Calls Try.prog 39 #[.slice A 1 c, .int .i64 (n : Nat)] w (fun e w' => ∃ g, e = .returned (.slice (some ⟨g, 0, none⟩) n n) ∧ w.heap.size ≤ g ∧ Blk w' g 3 (intVals (List.replicate n u)) ∧ Ext w w') := by
  have hc : Fl (Clip S w) w 1 (.slice A 1 c) 1 (intVals [u]) := hf.clip
  have hcc := (Fl.cel hc).2.1
  refine calls_enter (l := [(.slice A 1 c), (.int .i64 (n : Nat))]) Try.func39 rfl rfl rfl (fun aA hF => ?_)
  refine wp_seq_k (fun K1 hK1 => ?_)
  refine wp_region_lit ?_
  refine wpl_op (i := 0) rfl (o_val (v := (.slice none 0 0)) hF rfl rfl rfl rfl (rn_assign rfl) ?_)
  intro a2 hF3; clear hF
  refine wpList_nil ?_
  refine hK1 _ _ ?_
  clear hK1
  refine wp_seq_k (fun K4 hK4 => ?_)
  refine wp_seq_k (fun K5 hK5 => ?_)
  refine wp_region_lit ?_
  refine wpl_op (i := 0) rfl (o_val (v := (.int .i64 (n : Nat))) hF3 rfl rfl rfl rfl (rn_move (hF3.get rfl)) ?_)
  intro a6 hF7; clear hF3
  refine wpl_op (i := 1) rfl (o_val (v := (.bool (decide (((n : Nat) : Int) < (0 : Int))))) hF7 rfl rfl rfl rfl (rn_lss (hF7.get rfl) rfl) ?_)
  intro a8 hF9; clear hF7
  refine wpList_nil ?_
  refine hK5 _ _ ?_
  clear hK5
  by_cases hc10 : ((n : Nat) : Int) < (0 : Int)
  · skip
    refine wp_cond_true (c_true hF9 rfl (decide_eq_true hc10)) ?_
    exfalso; omega
  · skip
    refine wp_cond_false (c_false hF9 rfl (decide_eq_false hc10)) ?_
    refine wp_skip ?_
    refine hK4 _ _ ?_
    clear hK4
    refine wp_seq_k (fun K11 hK11 => ?_)
    refine wp_region_lit ?_
    refine wpl_op (i := 0) rfl (o_val (v := (.slice A 1 c)) hF9 rfl rfl rfl rfl (rn_move (hF9.get rfl)) ?_)
    intro a12 hF13; clear hF9
    refine wpl_op (i := 1) rfl (o_val (v := (.int .i64 1)) hF13 rfl rfl rfl rfl (rn_len_slice Try.underlying25 (hF13.get rfl)) ?_)
    intro a14 hF15; clear hF13
    refine wpl_op (i := 2) rfl (o_val (v := (.int .u64 1)) hF15 rfl rfl rfl rfl (rn_convW Try.underlying3 Try.underlying65 (hF15.get rfl) (by decide +kernel : IntKind.wrap .u64 1 = 1)) ?_)
    intro a16 hF17; clear hF15
    refine wpl_op (i := 3) rfl (o_val (v := (.int .i64 (n : Nat))) hF17 rfl rfl rfl rfl (rn_move (hF17.get rfl)) ?_)
    intro a18 hF19; clear hF17
    refine wpl_op (i := 4) rfl (o_val (v := (.int .u64 (n : Nat))) hF19 rfl rfl rfl rfl (rn_convW Try.underlying3 Try.underlying65 (hF19.get rfl) (wrap64 n (by omega))) ?_)
    intro a20 hF21; clear hF19
    refine wpl_op (i := 5) rfl (o_call hF21 rfl rfl rfl rfl (rn_call (args2 (hF21.get rfl) (hF21.get rfl)) rfl (by kernel_rfl)) (mul_one n (by omega) _) ?_)
    rintro _ w22 ⟨rfl, hx23⟩
    refine ⟨_, rfl, ?_⟩; intro a24 hF25; clear hF21; have z26 := hx23.size
    refine wpl_op (i := 6) rfl (o_val (v := (.tuple #[(.int .u64 0), (.int .u64 (n : Nat))])) hF25 rfl rfl rfl rfl (rn_move (hF25.get rfl)) ?_)
    intro a27 hF28; clear hF25
    refine wpl_op (i := 7) rfl (o_val (v := (.int .u64 0)) hF28 rfl rfl rfl rfl (rn_extract (hF28.get rfl) rfl) ?_)
    intro a29 hF30; clear hF28
    refine wpl_op (i := 8) rfl (o_val (v := (.int .u64 (n : Nat))) hF30 rfl rfl rfl rfl (rn_extract (hF30.get rfl) rfl) ?_)
    intro a31 hF32; clear hF30
    refine wpl_op (i := 9) rfl (o_val (v := (.int .u64 0)) hF32 rfl rfl rfl rfl (rn_assign (hF32.get rfl)) ?_)
    intro a33 hF34; clear hF32
    refine wpl_op (i := 10) rfl (o_val (v := (.int .u64 (n : Nat))) hF34 rfl rfl rfl rfl (rn_assign (hF34.get rfl)) ?_)
    intro a35 hF36; clear hF34
    refine wpList_nil ?_
    refine hK11 _ _ ?_
    clear hK11
    have hF37 := ((((((hF36.nil.cons (hF36.get (t := 6) (v := (.int .u64 (n : Nat))) rfl)).cons (hF36.get (t := 5) (v := (.int .u64 0)) rfl)).cons (hF36.get (t := 10) (v := (.bool (decide (((n : Nat) : Int) < (0 : Int))))) rfl)).cons (hF36.get (t := 4) (v := (.slice none 0 0)) rfl)).cons (hF36.get (t := 1) (v := (.int .i64 (n : Nat))) rfl)).cons (hF36.get (t := 0) (v := (.slice A 1 c)) rfl))
    clear hF36
    refine wp_seq_k (fun K38 hK38 => ?_)
    refine wp_seq_k (fun K39 hK39 => ?_)
    refine wp_region_lit ?_
    refine wpl_op (i := 0) rfl (o_val (v := (.int .u64 0)) hF37 rfl rfl rfl rfl (rn_move (hF37.get rfl)) ?_)
    intro a40 hF41; clear hF37
    refine wpl_op (i := 1) rfl (o_val (v := (.bool false)) hF41 rfl rfl rfl rfl (rn_gtr' (hF41.get rfl) rfl (by decide)) ?_)
    intro a42 hF43; clear hF41
    refine wpl_op (i := 2) rfl (o_val (v := (.bool false)) hF43 rfl rfl rfl rfl (rn_move (hF43.get rfl)) ?_)
    intro a44 hF45; clear hF43
    refine wpl_op (i := 3) rfl (o_val (v := (.int .u64 (n : Nat))) hF45 rfl (wanted_guard rfl rfl rfl hF45 rfl rfl rfl) rfl rfl (rn_move (hF45.get rfl)) ?_)
    intro a46 hF47; clear hF45
    refine wpl_op (i := 4) rfl (o_val (v := (.bool (decide ((9223372036854775807 : Int) < ((n : Nat) : Int))))) hF47 rfl (wanted_guard rfl rfl rfl hF47 rfl rfl rfl) rfl rfl (rn_gtr (hF47.get rfl) rfl) ?_)
    intro a48 hF49; clear hF47
    refine wpl_op (i := 5) rfl (o_val (v := (.bool (decide ((9223372036854775807 : Int) < ((n : Nat) : Int))))) hF49 rfl rfl rfl rfl (rn_pickF (c_false hF49 rfl rfl) (hF49.get rfl)) ?_)
    intro a50 hF51; clear hF49
    refine wpList_nil ?_
    refine hK39 _ _ ?_
    clear hK39
    have hF52 := (((((((hF51.nil.cons (hF51.get (t := 26) (v := (.bool (decide ((9223372036854775807 : Int) < ((n : Nat) : Int))))) rfl)).cons (hF51.get (t := 6) (v := (.int .u64 (n : Nat))) rfl)).cons (hF51.get (t := 5) (v := (.int .u64 0)) rfl)).cons (hF51.get (t := 10) (v := (.bool (decide (((n : Nat) : Int) < (0 : Int))))) rfl)).cons (hF51.get (t := 4) (v := (.slice none 0 0)) rfl)).cons (hF51.get (t := 1) (v := (.int .i64 (n : Nat))) rfl)).cons (hF51.get (t := 0) (v := (.slice A 1 c)) rfl))
    clear hF51
    by_cases hc53 : (9223372036854775807 : Int) < ((n : Nat) : Int)
    · skip
      refine wp_cond_true (c_true hF52 rfl (decide_eq_true hc53)) ?_
      exfalso; omega
    · skip
      refine wp_cond_false (c_false hF52 rfl (decide_eq_false hc53)) ?_
      refine wp_skip ?_
      refine hK38 _ _ ?_
      clear hK38
      refine wp_seq_k (fun K54 hK54 => ?_)
      refine wp_region_lit ?_
      refine wpl_op (i := 0) rfl (o_val (v := (.int .u64 (n : Nat))) hF52 rfl rfl rfl rfl (rn_move (hF52.get rfl)) ?_)
      intro a55 hF56; clear hF52
      refine wpl_op (i := 1) rfl (o_val (v := (.int .i64 (n : Nat))) hF56 rfl rfl rfl rfl (rn_conv Try.underlying65 Try.underlying3 (hF56.get rfl) (IntWalk.i64_in _ (by omega))) ?_)
      intro a57 hF58; clear hF56
      refine wpl_op (i := 2) rfl (o_new (fun g => (.slice (some ⟨g, 0, none⟩) n n)) (intVals (List.replicate n 0)) 3 hF58 rfl rfl rfl rfl (rn_makeN El25 rfl (hF58.get rfl) (hF58.get rfl) (by omega) (by omega) (by simp [intVals])) ?_)
      intro g59 w60 a65 hF66 z63 z64 b61 hx62; clear hF58
      refine wpl_op (i := 3) rfl (o_val (v := (.slice (some ⟨g59, 0, none⟩) n n)) hF66 rfl rfl rfl rfl (rn_assign (hF66.get rfl)) ?_)
      intro a67 hF68; clear hF66
      refine wpList_nil ?_
      refine hK54 _ _ ?_
      clear hK54
      refine wp_seq_k (fun K69 hK69 => ?_)
      refine wp_region_lit ?_
      refine wpl_op (i := 0) rfl (o_val (v := (.slice (some ⟨g59, 0, none⟩) n n)) hF68 rfl rfl rfl rfl (rn_move (hF68.get rfl)) ?_)
      intro a70 hF71; clear hF68
      refine wpl_op (i := 1) rfl (o_val (v := (.slice A 1 c)) hF71 rfl rfl rfl rfl (rn_move (hF71.get rfl)) ?_)
      intro a72 hF73; clear hF71
      have d74 := ((hc.ext hx23).ext hx62)
      refine wpl_op (i := 2) rfl (o_copy (new := intVals (splice (List.replicate n 0) 0 (([u]).take 1))) (n := 1) (El25) hF73 rfl rfl rfl rfl rfl (hF73.get rfl) (hF73.get rfl) b61 (Fl.cel d74).2.2 (by rw [intVals_len (List.length_replicate (n := n) (a := (0 : Int)))]; omega) (by rw [show min 1 n = 1 by omega, intVals_take, splice_int] <;> (congr 2; omega)) (by omega) ?_)
      intro w75 a78 hF79 b76 hg77; clear hF73; have z80 := hg77.size
      refine wpl_op (i := 3) rfl (o_val (v := (.int .i64 (1 : Nat))) hF79 rfl rfl rfl rfl (rn_assign (hF79.get rfl)) ?_)
      intro a81 hF82; clear hF79
      refine wpList_nil ?_
      refine hK69 _ _ ?_
      clear hK69
      have hF83 := (((((((((hF82.nil.cons (hF82.get (t := 8) (v := (.int .i64 (1 : Nat))) rfl)).cons (hF82.get (t := 7) (v := (.slice (some ⟨g59, 0, none⟩) n n)) rfl)).cons (hF82.get (t := 26) (v := (.bool (decide ((9223372036854775807 : Int) < ((n : Nat) : Int))))) rfl)).cons (hF82.get (t := 6) (v := (.int .u64 (n : Nat))) rfl)).cons (hF82.get (t := 5) (v := (.int .u64 0)) rfl)).cons (hF82.get (t := 10) (v := (.bool (decide (((n : Nat) : Int) < (0 : Int))))) rfl)).cons (hF82.get (t := 4) (v := (.slice none 0 0)) rfl)).cons (hF82.get (t := 1) (v := (.int .i64 (n : Nat))) rfl)).cons (hF82.get (t := 0) (v := (.slice A 1 c)) rfl))
      clear hF82
      refine wp_seq_k (fun K84 hK84 => ?_)
      refine wp_block ?_
      have hr0 : RepI u n 1 (splice (List.replicate n 0) 0 (([u]).take 1)) := by simpa using RepI.step (RepI.zero u n) (n := 1) (ys := [u]) (by omega) (by simp) (fun i hi => by have : i = 0 := (by omega); subst this; rfl)
      refine wp_loop (fun a' W => ∃ (k : Nat) (cur : List Int), Sl 48 [(0, (.slice A 1 c)), (1, (.int .i64 (n : Nat))), (4, (.slice none 0 0)), (10, (.bool (decide (((n : Nat) : Int) < (0 : Int))))), (5, (.int .u64 0)), (6, (.int .u64 (n : Nat))), (26, (.bool (decide ((9223372036854775807 : Int) < ((n : Nat) : Int))))), (7, (.slice (some ⟨g59, 0, none⟩) n n)), (8, (.int .i64 (k : Nat)))] a' ∧ (1 ≤ k ∧ k ≤ n) ∧ RepI u n k cur ∧ Ext w W ∧ Blk W g59 3 (intVals cur) ∧ w75.heap.size ≤ W.heap.size) (fun a' _ => n - (intOf (a'.eval (.tmp 8))).toNat) ⟨1, splice (List.replicate n 0) 0 (([u]).take 1), (((((((((hF83.nil.cons (q_get hF83 (t := 8) rfl (by first | rfl | (congr 1; omega) | (congr 1; done)))).cons (q_get hF83 (t := 7) rfl rfl)).cons (q_get hF83 (t := 26) rfl rfl)).cons (q_get hF83 (t := 6) rfl rfl)).cons (q_get hF83 (t := 5) rfl rfl)).cons (q_get hF83 (t := 10) rfl rfl)).cons (q_get hF83 (t := 4) rfl rfl)).cons (q_get hF83 (t := 1) rfl rfl)).cons (q_get hF83 (t := 0) rfl rfl)), ⟨by omega, by omega⟩, hr0, ((((Ext.refl w).trans hx23).trans hx62).grownN hg77 (by omega)), b76, (Nat.le_refl _)⟩ ?_
      clear hF83
      rintro a85 w86 ⟨k, cur, hF87, hp89, hp90, hx88, b91, hf92⟩
      have hL93 := hF87
      have z94 := hx88.size
      have z95 := b91.lt
      have hcl : cur.length = n := hp90.1
      refine wp_seq_k (fun K96 hK96 => ?_)
      refine wp_seq_k (fun K97 hK97 => ?_)
      refine wp_region_lit ?_
      refine wpl_op (i := 0) rfl (o_val (v := (.int .i64 (k : Nat))) hF87 rfl rfl rfl rfl (rn_move (hF87.get rfl)) ?_)
      intro a98 hF99; clear hF87
      refine wpl_op (i := 1) rfl (o_val (v := (.slice (some ⟨g59, 0, none⟩) n n)) hF99 rfl rfl rfl rfl (rn_move (hF99.get rfl)) ?_)
      intro a100 hF101; clear hF99
      refine wpl_op (i := 2) rfl (o_val (v := (.int .i64 (n : Nat))) hF101 rfl rfl rfl rfl (rn_len_slice Try.underlying25 (hF101.get rfl)) ?_)
      intro a102 hF103; clear hF101
      refine wpl_op (i := 3) rfl (o_val (v := (.bool (decide (((k : Nat) : Int) < ((n : Nat) : Int))))) hF103 rfl rfl rfl rfl (rn_lss (hF103.get rfl) (hF103.get rfl)) ?_)
      intro a104 hF105; clear hF103
      refine wpList_nil ?_
      refine hK97 _ _ ?_
      clear hK97
      by_cases hc106 : ((k : Nat) : Int) < ((n : Nat) : Int)
      · skip
        refine wp_cond_true (c_true hF105 rfl (decide_eq_true hc106)) ?_
        refine wp_skip ?_
        refine hK96 _ _ ?_
        clear hK96
        refine wp_block ?_
        have hx108 : ∃ W, w86.drew = W ∧ Ext w86 W := ⟨_, rfl, (Ext.refl _).drew⟩
        obtain ⟨w107, e109, hx108⟩ := hx108
        have z110 := hx108.size
        refine any_start (fun W => Ext w107 W) (fun i => i == 7) 10 #[false, false, false, false, false, false, false, false, false, false] rfl rfl rfl ?_
        rw [e109]; clear e109
        refine any_pure (i := 0) (v := (.int .i64 (k : Nat))) hF105 (by decide +kernel) (by decide +kernel) rfl rfl rfl rfl (fun _ _ _ _ h => h) rfl (fun W => (rn_move (hF105.get rfl))) ?_
        intro a111 hF112; clear hF105
        refine any_pure (i := 1) (v := (.slice (some ⟨g59, 0, none⟩) n n)) hF112 (by decide +kernel) (by decide +kernel) rfl rfl rfl rfl (fun _ _ _ _ h => h) rfl (fun W => (rn_move (hF112.get rfl))) ?_
        intro a113 hF114; clear hF112
        refine any_pure (i := 2) (v := (.int .i64 (k : Nat))) hF114 (by decide +kernel) (by decide +kernel) rfl rfl rfl rfl (fun _ _ _ _ h => h) rfl (fun W => (rn_move (hF114.get rfl))) ?_
        intro a115 hF116; clear hF114
        refine any_pure (i := 3) (v := (.slice (some ⟨g59, 0 + k * 1, none⟩) (n - k) (n - k))) hF116 (by decide +kernel) (by decide +kernel) rfl rfl rfl rfl (fun _ _ _ _ h => h) rfl (fun W => (rn_sliceLo (l := k) Try.underlying25 (by kernel_rfl : (Try.prog.info? 3).map (·.size) = some 1) (hF116.get rfl) (hF116.get rfl) (by omega : k ≤ n) (by omega : k < n))) ?_
        intro a117 hF118; clear hF116
        refine any_pure (i := 4) (v := (.slice (some ⟨g59, 0, none⟩) n n)) hF118 (by decide +kernel) (by decide +kernel) rfl rfl rfl rfl (fun _ _ _ _ h => h) rfl (fun W => (rn_move (hF118.get rfl))) ?_
        intro a119 hF120; clear hF118
        refine any_pure (i := 5) (v := (.int .i64 (k : Nat))) hF120 (by decide +kernel) (by decide +kernel) rfl rfl rfl rfl (fun _ _ _ _ h => h) rfl (fun W => (rn_move (hF120.get rfl))) ?_
        intro a121 hF122; clear hF120
        refine any_pure (i := 6) (v := (.slice (some ⟨g59, 0, none⟩) k n)) hF122 (by decide +kernel) (by decide +kernel) rfl rfl rfl rfl (fun _ _ _ _ h => h) rfl (fun W => (rn_sliceHi Try.underlying25 (by kernel_rfl : (Try.prog.info? 3).map (·.size) = some 1) (hF122.get rfl) (hF122.get rfl) (by omega : (0 : Int) ≤ (k : Nat)) (by omega : ((k : Nat) : Int) ≤ ((n : Nat) : Int)))) ?_
        intro a123 hF124; clear hF122
        refine any_one (i := 7) (by decide +kernel) rfl ?_
        have b125 : Blk w107 g59 3 (intVals cur) := (b91.ext hx108)
        refine o_copy (new := intVals (splice cur k (((cur.drop 0).take k).take (min k (n - k))))) (n := (min k (n - k))) (El25) hF124 rfl rfl rfl rfl rfl (hF124.get rfl) (hF124.get rfl) b125 (b125.celI (off := 0) (n := k) (by have := hcl; omega)) (by rw [intVals_len hcl]; omega) (by rw [show min k (n - k) = (min k (n - k)) by omega, intVals_take, splice_int] <;> (congr 2; omega)) (by omega) ?_
        intro w126 a129 hF130 b127 hg128; clear hF124; have z131 := hg128.size
        refine ⟨fun h => absurd h (by decide), ?_⟩
        refine any_pure (i := 8) (v := (.int .i64 (k + (min k (n - k)) : Nat))) hF130 (by decide +kernel) (by decide +kernel) rfl rfl rfl rfl (fun _ _ _ _ h => h) rfl (fun W => (rn_addN (a := k) (b := min k (n - k)) (hF130.get rfl) (hF130.get rfl) (by omega))) ?_
        intro a132 hF133; clear hF130
        refine any_pure (i := 9) (v := (.int .i64 (k + (min k (n - k)) : Nat))) hF133 (by decide +kernel) (by decide +kernel) rfl rfl rfl rfl (fun _ _ _ _ h => h) rfl (fun W => (rn_assign (hF133.get rfl))) ?_
        intro a134 hF135; clear hF133
        refine any_nil (by decide +kernel) ?_
        refine ⟨⟨(k + min k (n - k)), splice cur k (((cur.drop 0).take k).take (min k (n - k))), (((((((((hF135.nil.cons (q_get hF135 (t := 8) rfl (by first | rfl | (congr 1; omega) | (congr 1; done)))).cons (q_get hF135 (t := 7) rfl rfl)).cons (q_get hF135 (t := 26) rfl rfl)).cons (q_get hF135 (t := 6) rfl rfl)).cons (q_get hF135 (t := 5) rfl rfl)).cons (q_get hF135 (t := 10) rfl rfl)).cons (q_get hF135 (t := 4) rfl rfl)).cons (q_get hF135 (t := 1) rfl rfl)).cons (q_get hF135 (t := 0) rfl rfl)), ⟨by omega, by omega⟩, (RepI.step (n := min k (n - k)) hp90 (by omega) (RepI.take hp90 (by omega) (by omega)).1 (RepI.take hp90 (by omega) (by omega)).2), ((((Ext.refl w).trans hx88).trans hx108).grownN hg128 (by omega)), b127, (by omega)⟩, ?_⟩
        rw [hF135.get (t := 8) rfl, hL93.get (t := 8) rfl]; simp [intOf] <;> omega
      · skip
        refine wp_cond_false (c_false hF105 rfl (decide_eq_false hc106)) ?_
        refine wp_exit ?_
        refine exit_then ?_
        refine exit_then ?_
        refine exit_here ?_
        refine hK84 _ _ ?_
        clear hK84
        refine wp_seq_k (fun K136 hK136 => ?_)
        refine wp_region_lit ?_
        refine wpl_op (i := 0) rfl (o_val (v := (.slice (some ⟨g59, 0, none⟩) n n)) hF105 rfl rfl rfl rfl (rn_move (hF105.get rfl)) ?_)
        intro a137 hF138; clear hF105
        refine wpl_op (i := 1) rfl (o_val (v := (.slice (some ⟨g59, 0, none⟩) n n)) hF138 rfl rfl rfl rfl (rn_assign (hF138.get rfl)) ?_)
        intro a139 hF140; clear hF138
        refine wpList_nil ?_
        refine hK136 _ _ ?_
        clear hK136
        have hF141 := ((((((((((hF140.nil.cons (hF140.get (t := 37) (v := (.bool (decide (((k : Nat) : Int) < ((n : Nat) : Int))))) rfl)).cons (hF140.get (t := 8) (v := (.int .i64 (k : Nat))) rfl)).cons (hF140.get (t := 7) (v := (.slice (some ⟨g59, 0, none⟩) n n)) rfl)).cons (hF140.get (t := 26) (v := (.bool (decide ((9223372036854775807 : Int) < ((n : Nat) : Int))))) rfl)).cons (hF140.get (t := 6) (v := (.int .u64 (n : Nat))) rfl)).cons (hF140.get (t := 5) (v := (.int .u64 0)) rfl)).cons (hF140.get (t := 10) (v := (.bool (decide (((n : Nat) : Int) < (0 : Int))))) rfl)).cons (hF140.get (t := 4) (v := (.slice (some ⟨g59, 0, none⟩) n n)) rfl)).cons (hF140.get (t := 1) (v := (.int .i64 (n : Nat))) rfl)).cons (hF140.get (t := 0) (v := (.slice A 1 c)) rfl))
        clear hF140
        refine wp_ret ?_
        refine ret1 hF141 rfl rfl ?_
        have hk : k = n := by omega
        subst hk
        have hf142 := b91
        rw [RepI.all hp90] at hf142
        exact ⟨_, rfl, by omega, hf142, ((Ext.refl w).trans hx88)⟩

set_option maxRecDepth 100000 in
set_option maxHeartbeats 1000000 in
theorem rev_int (g n c base : Nat) (l : List Int) (w : World) (hr : w.ownsRow base 3 1 (.slice (some ⟨g, 0, none⟩) n c) n (intVals l)) :
    Calls Try.prog 38 #[.slice (some ⟨g, 0, none⟩) n c] w (fun e w' => e = .returned (.tuple #[]) ∧ w'.ownsRow base 3 1 (.slice (some ⟨g, 0, none⟩) n c) n (intVals l.reverse) ∧ w.grownBy w' (some g)) := by
  have hln := Fl.ilen (Fl.own (S := fun _ => True) hr (fun _ _ => trivial) (intVals_one _))
  have hgg := own_lt hr
  refine calls_enter (l := [(.slice (some ⟨g, 0, none⟩) n c)]) Try.func38 rfl rfl rfl (fun aA hF => ?_)
  refine wp_seq_k (fun K1 hK1 => ?_)
  refine wp_region_lit ?_
  refine wpl_op (i := 0) rfl (o_val (v := (.slice (some ⟨g, 0, none⟩) n c)) hF rfl rfl rfl rfl (rn_move (hF.get rfl)) ?_)
  intro a2 hF3; clear hF
  refine wpl_op (i := 1) rfl (o_val (v := (.int .i64 (n : Nat))) hF3 rfl rfl rfl rfl (rn_len_slice Try.underlying25 (hF3.get rfl)) ?_)
  intro a4 hF5; clear hF3
  refine wpl_op (i := 2) rfl (o_val (v := (.int .i64 ((n : Nat) - 1))) hF5 rfl rfl rfl rfl (rn_sub (hF5.get rfl) rfl (by omega) (by omega)) ?_)
  intro a6 hF7; clear hF5
  refine wpl_op (i := 3) rfl (o_val (v := (.int .i64 0)) hF7 rfl rfl rfl rfl (rn_assign rfl) ?_)
  intro a8 hF9; clear hF7
  refine wpl_op (i := 4) rfl (o_val (v := (.int .i64 ((n : Nat) - 1))) hF9 rfl rfl rfl rfl (rn_assign (hF9.get rfl)) ?_)
  intro a10 hF11; clear hF9
  refine wpList_nil ?_
  refine hK1 _ _ ?_
  clear hK1
  refine wp_block ?_
  refine wp_loop (fun a' W => ∃ (i1 : Nat) (j1 : Int) (lk : List Int), Sl 28 [(0, (.slice (some ⟨g, 0, none⟩) n c)), (2, (.int .i64 (i1 : Nat))), (3, (.int .i64 j1))] a' ∧ (i1 : Int) + j1 + 1 = n ∧ RevG 0 l lk i1 ∧ i1 ≤ n + 1 ∧ w.grownBy W (some g) ∧ W.ownsRow base 3 1 (.slice (some ⟨g, 0, none⟩) n c) n (intVals lk) ∧ base ≤ W.heap.size ∧ w.heap.size ≤ W.heap.size) (fun a' _ => n + 2 - (intOf (a'.eval (.tmp 2))).toNat) ⟨0, ((n : Int) - 1), l, (((hF11.nil.cons (q_get hF11 (t := 3) rfl (by first | rfl | (congr 1; omega) | (congr 1; done)))).cons (q_get hF11 (t := 2) rfl (by first | rfl | (congr 1; omega) | (congr 1; done)))).cons (q_get hF11 (t := 0) rfl rfl)), (by omega), (RevG.start l), (by omega), (grow_refl w g), hr, (by omega), (Nat.le_refl _)⟩ ?_
  clear hF11
  rintro a12 w13 ⟨i1, j1, lk, hF14, hp16, hp17, hp18, hx15, r19, hf20, hf21⟩
  have hL22 := hF14
  have z23 := hx15.size
  have z24 := own_lt r19
  have hlk := hp17.1
  refine wp_seq_k (fun K25 hK25 => ?_)
  refine wp_seq_k (fun K26 hK26 => ?_)
  refine wp_region_lit ?_
  refine wpl_op (i := 0) rfl (o_val (v := (.int .i64 (i1 : Nat))) hF14 rfl rfl rfl rfl (rn_move (hF14.get rfl)) ?_)
  intro a27 hF28; clear hF14
  refine wpl_op (i := 1) rfl (o_val (v := (.int .i64 j1)) hF28 rfl rfl rfl rfl (rn_move (hF28.get rfl)) ?_)
  intro a29 hF30; clear hF28
  refine wpl_op (i := 2) rfl (o_val (v := (.bool (decide (((i1 : Nat) : Int) < (j1 : Int))))) hF30 rfl rfl rfl rfl (rn_lss (hF30.get rfl) (hF30.get rfl)) ?_)
  intro a31 hF32; clear hF30
  refine wpList_nil ?_
  refine hK26 _ _ ?_
  clear hK26
  by_cases hc33 : ((i1 : Nat) : Int) < (j1 : Int)
  · skip
    refine wp_cond_true (c_true hF32 rfl (decide_eq_true hc33)) ?_
    refine wp_skip ?_
    refine hK25 _ _ ?_
    clear hK25
    refine wp_seq_k (fun K34 hK34 => ?_)
    refine wp_block ?_
    have hx36 : ∃ W, w13.drew = W ∧ Ext w13 W := ⟨_, rfl, (Ext.refl _).drew⟩
    obtain ⟨w35, e37, hx36⟩ := hx36
    have z38 := hx36.size
    refine any_start (fun W => Ext w35 W) (fun i => i == 13 || i == 15) 16 #[false, false, false, false, false, false, false, false, false, false, false, false, false, false, false, false] rfl rfl rfl ?_
    rw [e37]; clear e37
    refine any_pure (i := 0) (v := (.slice (some ⟨g, 0, none⟩) n c)) hF32 (by decide +kernel) (by decide +kernel) rfl rfl rfl rfl (fun _ _ _ _ h => h) rfl (fun W => (rn_move (hF32.get rfl))) ?_
    intro a39 hF40; clear hF32
    refine any_pure (i := 1) (v := (.int .i64 (i1 : Nat))) hF40 (by decide +kernel) (by decide +kernel) rfl rfl rfl rfl (fun _ _ _ _ h => h) rfl (fun W => (rn_move (hF40.get rfl))) ?_
    intro a41 hF42; clear hF40
    refine any_pure (i := 2) (v := (.slice (some ⟨g, 0, none⟩) n c)) hF42 (by decide +kernel) (by decide +kernel) rfl rfl rfl rfl (fun _ _ _ _ h => h) rfl (fun W => (rn_move (hF42.get rfl))) ?_
    intro a43 hF44; clear hF42
    refine any_pure (i := 3) (v := (.int .i64 j1)) hF44 (by decide +kernel) (by decide +kernel) rfl rfl rfl rfl (fun _ _ _ _ h => h) rfl (fun W => (rn_move (hF44.get rfl))) ?_
    intro a45 hF46; clear hF44
    refine any_pure (i := 4) (v := (.slice (some ⟨g, 0, none⟩) n c)) hF46 (by decide +kernel) (by decide +kernel) rfl rfl rfl rfl (fun _ _ _ _ h => h) rfl (fun W => (rn_move (hF46.get rfl))) ?_
    intro a47 hF48; clear hF46
    refine any_pure (i := 5) (v := (.int .i64 j1)) hF48 (by decide +kernel) (by decide +kernel) rfl rfl rfl rfl (fun _ _ _ _ h => h) rfl (fun W => (rn_move (hF48.get rfl))) ?_
    intro a49 hF50; clear hF48
    refine any_pure (i := 6) (v := (.pointer (some ⟨g, 0 + (j1 : Int).toNat, none⟩))) hF50 (by decide +kernel) (by decide +kernel) rfl rfl rfl rfl (fun _ _ _ _ h => h) rfl (fun W => (rn_index1 Try.underlying25 (by kernel_rfl : (Try.prog.info? 3).map (·.size) = some 1) (hF50.get rfl) (hF50.get rfl) (by omega : (0 : Int) ≤ j1) (by omega : (j1 : Int) < ((n : Nat) : Int)))) ?_
    intro a51 hF52; clear hF50
    have hS53 : Ext w35 w35 := (Ext.refl w35)
    have r54 := (own_ext r19 hx36)
    have hf55 := (Fl.own (S := fun b => base ≤ b) r54 (fun b hb => hb) (intVals_one _))
    refine any_val (i := 7) (v := (.int .i64 (lk.getD ((j1 : Int).toNat) 0))) hF52 (by decide +kernel) (by decide +kernel) rfl rfl rfl rfl (fun _ _ _ _ h => h) rfl hS53 (fun W hW => (rn_load (isAgg_no Try.underlying3 rfl) (hF52.get rfl) (Fl.cellAt (hf55.ext hW) rfl (intVals_at (i := (j1 : Int).toNat) (by have := hlk; omega))))) ?_
    intro a56 hF57; clear hF52
    refine any_pure (i := 8) (v := (.slice (some ⟨g, 0, none⟩) n c)) hF57 (by decide +kernel) (by decide +kernel) rfl rfl rfl rfl (fun _ _ _ _ h => h) rfl (fun W => (rn_move (hF57.get rfl))) ?_
    intro a58 hF59; clear hF57
    refine any_pure (i := 9) (v := (.int .i64 (i1 : Nat))) hF59 (by decide +kernel) (by decide +kernel) rfl rfl rfl rfl (fun _ _ _ _ h => h) rfl (fun W => (rn_move (hF59.get rfl))) ?_
    intro a60 hF61; clear hF59
    refine any_pure (i := 10) (v := (.pointer (some ⟨g, 0 + i1, none⟩))) hF61 (by decide +kernel) (by decide +kernel) rfl rfl rfl rfl (fun _ _ _ _ h => h) rfl (fun W => (rn_index1 Try.underlying25 (by kernel_rfl : (Try.prog.info? 3).map (·.size) = some 1) (hF61.get rfl) (hF61.get rfl) (by omega : (0 : Int) ≤ (i1 : Nat)) (by omega : ((i1 : Nat) : Int) < ((n : Nat) : Int)))) ?_
    intro a62 hF63; clear hF61
    have hf64 := (Fl.own (S := fun b => base ≤ b) r54 (fun b hb => hb) (intVals_one _))
    refine any_val (i := 11) (v := (.int .i64 (lk.getD i1 0))) hF63 (by decide +kernel) (by decide +kernel) rfl rfl rfl rfl (fun _ _ _ _ h => h) rfl hS53 (fun W hW => (rn_load (isAgg_no Try.underlying3 rfl) (hF63.get rfl) (Fl.cellAt (hf64.ext hW) rfl (intVals_at (i := i1) (by have := hlk; omega))))) ?_
    intro a65 hF66; clear hF63
    refine any_pure (i := 12) (v := (.pointer (some ⟨g, 0 + i1, none⟩))) hF66 (by decide +kernel) (by decide +kernel) rfl rfl rfl rfl (fun _ _ _ _ h => h) rfl (fun W => (rn_index1 Try.underlying25 (by kernel_rfl : (Try.prog.info? 3).map (·.size) = some 1) (hF66.get rfl) (hF66.get rfl) (by omega : (0 : Int) ≤ (i1 : Nat)) (by omega : ((i1 : Nat) : Int) < ((n : Nat) : Int)))) ?_
    intro a67 hF68; clear hF66
    refine any_one (i := 13) (by decide +kernel) rfl ?_
    refine o_storeRow1 (j := i1) (zs := intVals (lk.set i1 (lk.getD ((j1 : Int).toNat) 0))) hF68 rfl rfl rfl rfl (hF68.get rfl) (hF68.get rfl) r54 (by kernel_rfl : (Try.prog.info? 3).map (·.size) = some 1) (by omega) (by omega) rfl (intVals_set rfl) ?_
    intro w69 r70 hg71; have z72 := hg71.size
    refine ⟨fun h => absurd h (by decide), ?_⟩
    refine any_pure (i := 14) (v := (.pointer (some ⟨g, 0 + (j1 : Int).toNat, none⟩))) hF68 (by decide +kernel) (by decide +kernel) rfl rfl rfl rfl (fun _ _ _ _ h => h) rfl (fun W => (rn_index1 Try.underlying25 (by kernel_rfl : (Try.prog.info? 3).map (·.size) = some 1) (hF68.get rfl) (hF68.get rfl) (by omega : (0 : Int) ≤ j1) (by omega : (j1 : Int) < ((n : Nat) : Int)))) ?_
    intro a73 hF74; clear hF68
    refine any_one (i := 15) (by decide +kernel) rfl ?_
    refine o_storeRow1 (j := (j1 : Int).toNat) (zs := intVals ((lk.set i1 (lk.getD ((j1 : Int).toNat) 0)).set ((j1 : Int).toNat) (lk.getD i1 0))) hF74 rfl rfl rfl rfl (hF74.get rfl) (hF74.get rfl) r70 (by kernel_rfl : (Try.prog.info? 3).map (·.size) = some 1) (by omega) (by omega) rfl (intVals_set rfl) ?_
    intro w75 r76 hg77; have z78 := hg77.size
    refine ⟨fun h => absurd h (by decide), ?_⟩
    refine any_nil (by decide +kernel) ?_
    refine hK34 _ _ ?_
    clear hK34
    have hF79 := ((((hF74.nil.cons (hF74.get (t := 9) (v := (.bool (decide (((i1 : Nat) : Int) < (j1 : Int))))) rfl)).cons (hF74.get (t := 3) (v := (.int .i64 j1)) rfl)).cons (hF74.get (t := 2) (v := (.int .i64 (i1 : Nat))) rfl)).cons (hF74.get (t := 0) (v := (.slice (some ⟨g, 0, none⟩) n c)) rfl))
    clear hF74
    refine wp_region_lit ?_
    refine wpl_op (i := 0) rfl (o_val (v := (.int .i64 (i1 : Nat))) hF79 rfl rfl rfl rfl (rn_move (hF79.get rfl)) ?_)
    intro a80 hF81; clear hF79
    refine wpl_op (i := 1) rfl (o_val (v := (.int .i64 (i1 + 1 : Nat))) hF81 rfl rfl rfl rfl (rn_addN (a := i1) (b := 1) (hF81.get rfl) rfl (by omega)) ?_)
    intro a82 hF83; clear hF81
    refine wpl_op (i := 2) rfl (o_val (v := (.int .i64 j1)) hF83 rfl rfl rfl rfl (rn_move (hF83.get rfl)) ?_)
    intro a84 hF85; clear hF83
    refine wpl_op (i := 3) rfl (o_val (v := (.int .i64 (j1 - 1))) hF85 rfl rfl rfl rfl (rn_sub (hF85.get rfl) rfl (by omega) (by omega)) ?_)
    intro a86 hF87; clear hF85
    refine wpl_op (i := 4) rfl (o_val (v := (.int .i64 (i1 + 1 : Nat))) hF87 rfl rfl rfl rfl (rn_assign (hF87.get rfl)) ?_)
    intro a88 hF89; clear hF87
    refine wpl_op (i := 5) rfl (o_val (v := (.int .i64 (j1 - 1))) hF89 rfl rfl rfl rfl (rn_assign (hF89.get rfl)) ?_)
    intro a90 hF91; clear hF89
    refine wpList_nil ?_
    refine ⟨⟨(i1 + 1), (j1 - 1), (lk.set i1 (lk.getD ((j1 : Int).toNat) 0)).set ((j1 : Int).toNat) (lk.getD i1 0), (((hF91.nil.cons (q_get hF91 (t := 3) rfl (by first | rfl | (congr 1; omega) | (congr 1; done)))).cons (q_get hF91 (t := 2) rfl (by first | rfl | (congr 1; omega) | (congr 1; done)))).cons (q_get hF91 (t := 0) rfl rfl)), (by omega), (RevG.step hp17 (by omega) (by omega)), (by omega), (grow_set (grow_set (grow_ext (grow_set (grow_refl w g) hx15) hx36) hg71) hg77), r76, (by omega), (by omega)⟩, ?_⟩
    rw [hF91.get (t := 2) rfl, hL22.get (t := 2) rfl]; simp [intOf] <;> omega
  · skip
    refine wp_cond_false (c_false hF32 rfl (decide_eq_false hc33)) ?_
    refine wp_exit ?_
    refine exit_then ?_
    refine exit_then ?_
    refine exit_here ?_
    refine ret0 hF32 rfl ?_
    have hdone := RevG.done hp17 (by omega)
    exact ⟨rfl, hdone ▸ r19, (grow_set (grow_refl w g) hx15)⟩

end Go.Proofs.Ytjmdodgmoehfkaa
