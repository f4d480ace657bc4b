/- Contracts of relax and run. -/
import Derived.Test.YtjmdodgmoehfkaaProg
import Derived.Test.YtjmdodgmoehfkaaBndB
import Derived.Test.YtjmdodgmoehfkaaBndD
import Derived.KernelRfl
namespace Go.Proofs.Ytjmdodgmoehfkaa
open Go.RowKit

variable {S S' : Nat → Prop}

set_option maxRecDepth 100000 in
set_option maxHeartbeats 1000000 in
theorem relax_any (g fb fo fc eb ec nn : Nat) (A : Option Addr) (c : Nat) (l : List E3) (L D : List Int) (w : World) (i : Nat) (hg : Blk w g 61 [.int .i64 (nn : Nat), .slice A l.length c, .slice (some ⟨fb, fo, none⟩) nn fc, .slice (some ⟨eb, 0, none⟩) nn ec]) (hfb : Blk w fb 3 (intVals L)) (heb : Blk w eb 3 (intVals D)) (hD : D.length = nn) (hL : fo + nn ≤ L.length) (hf : Fl S w 3 (.slice A l.length c) l.length (edVals l)) (_hSf : ¬ S fb) (_hSe : ¬ S eb) (hne : fb ≠ eb) (hng : g ≠ fb) (hne2 : g ≠ eb) (hv : vOk nn l = true) (hi : i < l.length) (hb : ∀ v, v < nn → L.getD (fo + v) 0 = 1152921504606846976 ∨ (-9007199254740992 ≤ L.getD (fo + v) 0 ∧ L.getD (fo + v) 0 ≤ 9007199254740992)) :
    Calls Try.prog 40 #[.pointer (some ⟨g, 0, none⟩), .int .i64 (i : Nat)] w (fun e w' => e = .returned (.bool (!noc L fo (l.getD i default))) ∧ Blk w' fb 3 (intVals (relL L fo (l.getD i default))) ∧ Blk w' eb 3 (intVals (relD L fo (l.getD i default) D i)) ∧ Two w w' fb eb) := by
  have hc : Fl (Clip S w) w 3 (.slice A l.length c) l.length (edVals l) := hf.clip
  have hcc := (Fl.cel hc).2.1
  have zg := hg.lt; have zf := hfb.lt; have ze := heb.lt
  have hx := vOk_at hv hi
  have hsa := hb (l.getD i default).a.toNat (by omega)
  refine calls_enter (l := [(.pointer (some ⟨g, 0, none⟩)), (.int .i64 (i : Nat))]) Try.func40 rfl rfl rfl (fun aA hF => ?_)
  refine wp_seq_k (fun K1 hK1 => ?_)
  refine wp_region_lit ?_
  refine wpl_op (i := 0) rfl (o_val (v := (.bool false)) hF rfl rfl rfl rfl (rn_assign rfl) ?_)
  intro a2 hF3; clear hF
  refine wpList_nil ?_
  refine hK1 _ _ ?_
  clear hK1
  refine wp_seq_k (fun K4 hK4 => ?_)
  refine wp_region_lit ?_
  refine wpl_op (i := 0) rfl (o_val (v := (.pointer (some ⟨g, 0, none⟩))) hF3 rfl rfl rfl rfl (rn_move (hF3.get rfl)) ?_)
  intro a5 hF6; clear hF3
  refine wpl_op (i := 1) rfl (o_val (v := (.pointer (some ⟨g, 0, none⟩))) hF6 rfl rfl rfl rfl (rn_nil (hF6.get rfl)) ?_)
  intro a7 hF8; clear hF6
  refine wpl_op (i := 2) rfl (o_val (v := (.pointer (some ⟨g, 0, none⟩))) hF8 rfl rfl rfl rfl (rn_field Try.underlying61 rfl (by kernel_rfl) (hF8.get rfl) rfl) ?_)
  intro a9 hF10; clear hF8
  refine wpl_op (i := 3) rfl (o_val (v := (.pointer (some ⟨g, 1, none⟩))) hF10 rfl rfl rfl rfl (rn_field Try.underlying24 rfl (by kernel_rfl) (hF10.get rfl) rfl) ?_)
  intro a11 hF12; clear hF10
  refine wpl_op (i := 4) rfl (o_val (v := (.slice A l.length c)) hF12 rfl rfl rfl rfl (rn_load (isAgg_no Try.underlying22 rfl) (hF12.get rfl) (hg.rule.1 1)) ?_)
  intro a13 hF14; clear hF12
  refine wpl_op (i := 5) rfl (o_val (v := (.int .i64 (i : Nat))) hF14 rfl rfl rfl rfl (rn_move (hF14.get rfl)) ?_)
  intro a15 hF16; clear hF14
  obtain ⟨b17, o18, hA19, -⟩ := Fl.at hc (by omega)
  refine wpl_op (i := 6) rfl (o_val (v := (.pointer (some ⟨b17, o18 + i * 3, none⟩))) hF16 rfl rfl rfl rfl (rn_indexE Try.underlying22 (by kernel_rfl : (Try.prog.info? 41).map (·.size) = some 3) ((hF16.get rfl).trans (by rw [hA19])) (hF16.get rfl) (by omega : (0 : Int) ≤ (i : Nat)) (by omega : ((i : Nat) : Int) < ((l.length : Nat) : Int)) (by omega)) ?_)
  intro a20 hF21; clear hF16
  refine wpl_op (i := 7) rfl (o_val (v := (.agg #[(.int .i64 ((l.getD i default).a)), (.int .i64 ((l.getD i default).b)), (.int .i64 ((l.getD i default).w))])) hF21 rfl rfl rfl rfl (rn_loadN (cs := [(.int .i64 ((l.getD i default).a)), (.int .i64 ((l.getD i default).b)), (.int .i64 ((l.getD i default).w))]) (hF21.get rfl) Try.underlying41 rfl (by kernel_rfl : (Try.prog.info? 41).map (·.size) = some 3) (Fl.recAt edCells_k hc hA19 (by omega))) ?_)
  intro a22 hF23; clear hF21
  refine wpl_op (i := 8) rfl (o_new (fun g => (.pointer (some ⟨g, 0, none⟩))) [(.int .i64 0), (.int .i64 0), (.int .i64 0)] 41 hF23 rfl rfl rfl rfl (by kernel_rfl) ?_)
  intro g24 w25 a30 hF31 z28 z29 b26 hx27; clear hF23
  refine wpl_op (i := 9) rfl (o_store (cells := [(.int .i64 ((l.getD i default).a)), (.int .i64 ((l.getD i default).b)), (.int .i64 ((l.getD i default).w))]) hF31 rfl rfl rfl rfl (hF31.get rfl) (hF31.get rfl) b26 (by kernel_rfl : (Try.prog.info? 41).map (·.size) = some 3) rfl (by simp [Value.oneCell']) ?_)
  intro w32 b33 hg34; have z35 := hg34.size
  refine wpList_nil ?_
  refine hK4 _ _ ?_
  clear hK4
  have hF36 := ((((hF31.nil.cons (hF31.get (t := 5) (v := (.pointer (some ⟨g24, 0, none⟩))) rfl)).cons (hF31.get (t := 4) (v := (.bool false)) rfl)).cons (hF31.get (t := 1) (v := (.int .i64 (i : Nat))) rfl)).cons (hF31.get (t := 0) (v := (.pointer (some ⟨g, 0, none⟩))) rfl))
  clear hF31
  refine wp_seq_k (fun K37 hK37 => ?_)
  refine wp_seq_k (fun K38 hK38 => ?_)
  have hx40 : ∃ W, w32.drew = W ∧ Ext w32 W := ⟨_, rfl, (Ext.refl _).drew⟩
  obtain ⟨w39, e41, hx40⟩ := hx40
  have z42 := hx40.size
  refine any_start (fun W => Ext w39 W ∧ Blk W g 61 [(.int .i64 (nn : Nat)), (.slice A l.length c), (.slice (some ⟨fb, fo, none⟩) nn fc), (.slice (some ⟨eb, 0, none⟩) nn ec)] ∧ Blk W g24 41 [(.int .i64 ((l.getD i default).a)), (.int .i64 ((l.getD i default).b)), (.int .i64 ((l.getD i default).w))]) (fun i => false) 31 #[false, false, false, false, false, false, false, false, false, false, false, false, false, false, false, false, false, false, false, false, false, false, false, false, false, false, false, false, false, false, false] rfl rfl rfl ?_
  rw [e41]; clear e41
  refine any_pure (i := 0) (v := (.pointer (some ⟨g, 0, none⟩))) hF36 (by decide +kernel) (by decide +kernel) rfl rfl rfl rfl (fun _ _ _ _ h => h) rfl (fun W => (rn_move (hF36.get rfl))) ?_
  intro a43 hF44; clear hF36
  refine any_pure (i := 1) (v := (.pointer (some ⟨g, 0, none⟩))) hF44 (by decide +kernel) (by decide +kernel) rfl rfl rfl rfl (fun _ _ _ _ h => h) rfl (fun W => (rn_nil (hF44.get rfl))) ?_
  intro a45 hF46; clear hF44
  refine any_pure (i := 2) (v := (.pointer (some ⟨g, 2, none⟩))) hF46 (by decide +kernel) (by decide +kernel) rfl rfl rfl rfl (fun _ _ _ _ h => h) rfl (fun W => (rn_field Try.underlying61 rfl (by kernel_rfl) (hF46.get rfl) rfl)) ?_
  intro a47 hF48; clear hF46
  have b50 : Blk w39 g 61 [(.int .i64 (nn : Nat)), (.slice A l.length c), (.slice (some ⟨fb, fo, none⟩) nn fc), (.slice (some ⟨eb, 0, none⟩) nn ec)] := (((hg.ext hx27).grownN hg34 (by omega)).ext hx40)
  have b51 : Blk w39 g24 41 [(.int .i64 ((l.getD i default).a)), (.int .i64 ((l.getD i default).b)), (.int .i64 ((l.getD i default).w))] := (b33.ext hx40)
  have hS49 : Ext w39 w39 ∧ Blk w39 g 61 [(.int .i64 (nn : Nat)), (.slice A l.length c), (.slice (some ⟨fb, fo, none⟩) nn fc), (.slice (some ⟨eb, 0, none⟩) nn ec)] ∧ Blk w39 g24 41 [(.int .i64 ((l.getD i default).a)), (.int .i64 ((l.getD i default).b)), (.int .i64 ((l.getD i default).w))] := ⟨(Ext.refl w39), b50, b51⟩
  refine any_val (i := 3) (v := (.slice (some ⟨fb, fo, none⟩) nn fc)) hF48 (by decide +kernel) (by decide +kernel) rfl rfl rfl rfl (fun _ _ _ _ h => h) rfl hS49 (fun W hW => (rn_load (isAgg_no Try.underlying25 rfl) (hF48.get rfl) (hW.2.1.rule.1 2))) ?_
  intro a52 hF53; clear hF48
  refine any_pure (i := 4) (v := (.pointer (some ⟨g24, 0, none⟩))) hF53 (by decide +kernel) (by decide +kernel) rfl rfl rfl rfl (fun _ _ _ _ h => h) rfl (fun W => (rn_field Try.underlying41 rfl (by kernel_rfl) (hF53.get rfl) rfl)) ?_
  intro a54 hF55; clear hF53
  refine any_val (i := 5) (v := (.int .i64 ((l.getD i default).a))) hF55 (by decide +kernel) (by decide +kernel) rfl rfl rfl rfl (fun _ _ _ _ h => h) rfl hS49 (fun W hW => (rn_load (isAgg_no Try.underlying3 rfl) (hF55.get rfl) (hW.2.2.rule.1 0))) ?_
  intro a56 hF57; clear hF55
  refine any_pure (i := 6) (v := (.pointer (some ⟨fb, fo + ((l.getD i default).a : Int).toNat, none⟩))) hF57 (by decide +kernel) (by decide +kernel) rfl rfl rfl rfl (fun _ _ _ _ h => h) rfl (fun W => (rn_index1 Try.underlying25 (by kernel_rfl : (Try.prog.info? 3).map (·.size) = some 1) (hF57.get rfl) (hF57.get rfl) (by omega : (0 : Int) ≤ (l.getD i default).a) (by omega : ((l.getD i default).a : Int) < ((nn : Nat) : Int)))) ?_
  intro a58 hF59; clear hF57
  have b60 : Blk w39 fb 3 (intVals L) := (((hfb.ext hx27).grownN hg34 (by omega)).ext hx40)
  refine any_val (i := 7) (v := (.int .i64 (L.getD (fo + ((l.getD i default).a : Int).toNat) 0))) hF59 (by decide +kernel) (by decide +kernel) rfl rfl rfl rfl (fun _ _ _ _ h => h) rfl hS49 (fun W hW => (rn_load (isAgg_no Try.underlying3 rfl) (hF59.get rfl) (blk_intVals (b60.ext hW.1) (by omega) (by have := (show List.length L = _ from (rfl : L.length = L.length)); omega)))) ?_
  intro a61 hF62; clear hF59
  refine any_pure (i := 8) (v := (.bool (decide (((L.getD (fo + ((l.getD i default).a : Int).toNat) 0) : Int) = (1152921504606846976 : Int))))) hF62 (by decide +kernel) (by decide +kernel) rfl rfl rfl rfl (fun _ _ _ _ h => h) rfl (fun W => (rn_eql (hF62.get rfl) rfl)) ?_
  intro a63 hF64; clear hF62
  refine any_pure (i := 9) (v := (.bool (decide (((L.getD (fo + ((l.getD i default).a : Int).toNat) 0) : Int) = (1152921504606846976 : Int))))) hF64 (by decide +kernel) (by decide +kernel) rfl rfl rfl rfl (fun _ _ _ _ h => h) rfl (fun W => (rn_move (hF64.get rfl))) ?_
  intro a65 hF66; clear hF64
  by_cases hc67 : ((L.getD (fo + ((l.getD i default).a : Int).toNat) 0) : Int) = (1152921504606846976 : Int)
  · skip
    refine any_pass (i := 10) hF66 (by decide +kernel) (by decide +kernel) rfl rfl rfl rfl (fun _ _ _ _ h => h) (unwanted_guard rfl rfl rfl hF66 rfl (decide_eq_true hc67) rfl) ?_
    intro a68 hF69; clear hF66
    refine any_pass (i := 11) hF69 (by decide +kernel) (by decide +kernel) rfl rfl rfl rfl (fun _ _ _ _ h => h) (unwanted_guard rfl rfl rfl hF69 rfl (decide_eq_true hc67) rfl) ?_
    intro a70 hF71; clear hF69
    refine any_pass (i := 12) hF71 (by decide +kernel) (by decide +kernel) rfl rfl rfl rfl (fun _ _ _ _ h => h) (unwanted_guard rfl rfl rfl hF71 rfl (decide_eq_true hc67) rfl) ?_
    intro a72 hF73; clear hF71
    refine any_pass (i := 13) hF73 (by decide +kernel) (by decide +kernel) rfl rfl rfl rfl (fun _ _ _ _ h => h) (unwanted_guard rfl rfl rfl hF73 rfl (decide_eq_true hc67) rfl) ?_
    intro a74 hF75; clear hF73
    refine any_pass (i := 14) hF75 (by decide +kernel) (by decide +kernel) rfl rfl rfl rfl (fun _ _ _ _ h => h) (unwanted_guard rfl rfl rfl hF75 rfl (decide_eq_true hc67) rfl) ?_
    intro a76 hF77; clear hF75
    refine any_pass (i := 15) hF77 (by decide +kernel) (by decide +kernel) rfl rfl rfl rfl (fun _ _ _ _ h => h) (unwanted_guard rfl rfl rfl hF77 rfl (decide_eq_true hc67) rfl) ?_
    intro a78 hF79; clear hF77
    refine any_pass (i := 16) hF79 (by decide +kernel) (by decide +kernel) rfl rfl rfl rfl (fun _ _ _ _ h => h) (unwanted_guard rfl rfl rfl hF79 rfl (decide_eq_true hc67) rfl) ?_
    intro a80 hF81; clear hF79
    refine any_pass (i := 17) hF81 (by decide +kernel) (by decide +kernel) rfl rfl rfl rfl (fun _ _ _ _ h => h) (unwanted_guard rfl rfl rfl hF81 rfl (decide_eq_true hc67) rfl) ?_
    intro a82 hF83; clear hF81
    refine any_pass (i := 18) hF83 (by decide +kernel) (by decide +kernel) rfl rfl rfl rfl (fun _ _ _ _ h => h) (unwanted_guard rfl rfl rfl hF83 rfl (decide_eq_true hc67) rfl) ?_
    intro a84 hF85; clear hF83
    refine any_pass (i := 19) hF85 (by decide +kernel) (by decide +kernel) rfl rfl rfl rfl (fun _ _ _ _ h => h) (unwanted_guard rfl rfl rfl hF85 rfl (decide_eq_true hc67) rfl) ?_
    intro a86 hF87; clear hF85
    refine any_pass (i := 20) hF87 (by decide +kernel) (by decide +kernel) rfl rfl rfl rfl (fun _ _ _ _ h => h) (unwanted_guard rfl rfl rfl hF87 rfl (decide_eq_true hc67) rfl) ?_
    intro a88 hF89; clear hF87
    refine any_pass (i := 21) hF89 (by decide +kernel) (by decide +kernel) rfl rfl rfl rfl (fun _ _ _ _ h => h) (unwanted_guard rfl rfl rfl hF89 rfl (decide_eq_true hc67) rfl) ?_
    intro a90 hF91; clear hF89
    refine any_pass (i := 22) hF91 (by decide +kernel) (by decide +kernel) rfl rfl rfl rfl (fun _ _ _ _ h => h) (unwanted_guard rfl rfl rfl hF91 rfl (decide_eq_true hc67) rfl) ?_
    intro a92 hF93; clear hF91
    refine any_pass (i := 23) hF93 (by decide +kernel) (by decide +kernel) rfl rfl rfl rfl (fun _ _ _ _ h => h) (unwanted_guard rfl rfl rfl hF93 rfl (decide_eq_true hc67) rfl) ?_
    intro a94 hF95; clear hF93
    refine any_pass (i := 24) hF95 (by decide +kernel) (by decide +kernel) rfl rfl rfl rfl (fun _ _ _ _ h => h) (unwanted_guard rfl rfl rfl hF95 rfl (decide_eq_true hc67) rfl) ?_
    intro a96 hF97; clear hF95
    refine any_pass (i := 25) hF97 (by decide +kernel) (by decide +kernel) rfl rfl rfl rfl (fun _ _ _ _ h => h) (unwanted_guard rfl rfl rfl hF97 rfl (decide_eq_true hc67) rfl) ?_
    intro a98 hF99; clear hF97
    refine any_pass (i := 26) hF99 (by decide +kernel) (by decide +kernel) rfl rfl rfl rfl (fun _ _ _ _ h => h) (unwanted_guard rfl rfl rfl hF99 rfl (decide_eq_true hc67) rfl) ?_
    intro a100 hF101; clear hF99
    refine any_pass (i := 27) hF101 (by decide +kernel) (by decide +kernel) rfl rfl rfl rfl (fun _ _ _ _ h => h) (unwanted_guard rfl rfl rfl hF101 rfl (decide_eq_true hc67) rfl) ?_
    intro a102 hF103; clear hF101
    refine any_pass (i := 28) hF103 (by decide +kernel) (by decide +kernel) rfl rfl rfl rfl (fun _ _ _ _ h => h) (unwanted_guard rfl rfl rfl hF103 rfl (decide_eq_true hc67) rfl) ?_
    intro a104 hF105; clear hF103
    refine any_pass (i := 29) hF105 (by decide +kernel) (by decide +kernel) rfl rfl rfl rfl (fun _ _ _ _ h => h) (unwanted_guard rfl rfl rfl hF105 rfl (decide_eq_true hc67) rfl) ?_
    intro a106 hF107; clear hF105
    refine any_pure (i := 30) (v := (.bool true)) hF107 (by decide +kernel) (by decide +kernel) rfl rfl rfl rfl (fun _ _ _ _ h => h) rfl (fun W => (rn_pickT (c_true hF107 rfl (decide_eq_true hc67)) rfl)) ?_
    intro a108 hF109; clear hF107
    refine any_nil (by decide +kernel) ?_
    refine hK38 _ _ ?_
    clear hK38
    have hF110 := (((((hF109.nil.cons (hF109.get (t := 44) (v := (.bool true)) rfl)).cons (hF109.get (t := 5) (v := (.pointer (some ⟨g24, 0, none⟩))) rfl)).cons (hF109.get (t := 4) (v := (.bool false)) rfl)).cons (hF109.get (t := 1) (v := (.int .i64 (i : Nat))) rfl)).cons (hF109.get (t := 0) (v := (.pointer (some ⟨g, 0, none⟩))) rfl))
    clear hF109
    refine wp_cond_true (c_true hF110 rfl rfl) ?_
    refine wp_seq_k (fun K111 hK111 => ?_)
    refine wp_region_lit ?_
    refine wpl_op (i := 0) rfl (o_val (v := (.bool false)) hF110 rfl rfl rfl rfl (rn_assign rfl) ?_)
    intro a112 hF113; clear hF110
    refine wpList_nil ?_
    refine hK111 _ _ ?_
    clear hK111
    refine wp_ret ?_
    refine ret_then ?_
    refine ret1 hF113 rfl rfl ?_
    have hno : noc L fo (l.getD i default) = true := noc_t1 (by omega)
    have b114 : Blk w39 eb 3 (intVals D) := (((heb.ext hx27).grownN hg34 (by omega)).ext hx40)
    exact ⟨by rw [hno]; rfl, by rw [relL, if_pos hno]; exact b60, by rw [relD, if_pos hno]; exact b114, ((((Two.refl w fb eb).ext hx27).grown hg34 (by omega)).ext hx40)⟩
  · skip
    refine any_pure (i := 10) (v := (.pointer (some ⟨g, 0, none⟩))) hF66 (by decide +kernel) (by decide +kernel) rfl rfl rfl rfl (fun _ _ _ _ h => h) (wanted_guard rfl rfl rfl hF66 rfl (decide_eq_false hc67) rfl) (fun W => (rn_move (hF66.get rfl))) ?_
    intro a115 hF116; clear hF66
    refine any_pure (i := 11) (v := (.pointer (some ⟨g, 0, none⟩))) hF116 (by decide +kernel) (by decide +kernel) rfl rfl rfl rfl (fun _ _ _ _ h => h) (wanted_guard rfl rfl rfl hF116 rfl (decide_eq_false hc67) rfl) (fun W => (rn_nil (hF116.get rfl))) ?_
    intro a117 hF118; clear hF116
    refine any_pure (i := 12) (v := (.pointer (some ⟨g, 2, none⟩))) hF118 (by decide +kernel) (by decide +kernel) rfl rfl rfl rfl (fun _ _ _ _ h => h) (wanted_guard rfl rfl rfl hF118 rfl (decide_eq_false hc67) rfl) (fun W => (rn_field Try.underlying61 rfl (by kernel_rfl) (hF118.get rfl) rfl)) ?_
    intro a119 hF120; clear hF118
    refine any_val (i := 13) (v := (.slice (some ⟨fb, fo, none⟩) nn fc)) hF120 (by decide +kernel) (by decide +kernel) rfl rfl rfl rfl (fun _ _ _ _ h => h) (wanted_guard rfl rfl rfl hF120 rfl (decide_eq_false hc67) rfl) hS49 (fun W hW => (rn_load (isAgg_no Try.underlying25 rfl) (hF120.get rfl) (hW.2.1.rule.1 2))) ?_
    intro a121 hF122; clear hF120
    refine any_pure (i := 14) (v := (.pointer (some ⟨g24, 0, none⟩))) hF122 (by decide +kernel) (by decide +kernel) rfl rfl rfl rfl (fun _ _ _ _ h => h) (wanted_guard rfl rfl rfl hF122 rfl (decide_eq_false hc67) rfl) (fun W => (rn_field Try.underlying41 rfl (by kernel_rfl) (hF122.get rfl) rfl)) ?_
    intro a123 hF124; clear hF122
    refine any_val (i := 15) (v := (.int .i64 ((l.getD i default).a))) hF124 (by decide +kernel) (by decide +kernel) rfl rfl rfl rfl (fun _ _ _ _ h => h) (wanted_guard rfl rfl rfl hF124 rfl (decide_eq_false hc67) rfl) hS49 (fun W hW => (rn_load (isAgg_no Try.underlying3 rfl) (hF124.get rfl) (hW.2.2.rule.1 0))) ?_
    intro a125 hF126; clear hF124
    refine any_pure (i := 16) (v := (.pointer (some ⟨fb, fo + ((l.getD i default).a : Int).toNat, none⟩))) hF126 (by decide +kernel) (by decide +kernel) rfl rfl rfl rfl (fun _ _ _ _ h => h) (wanted_guard rfl rfl rfl hF126 rfl (decide_eq_false hc67) rfl) (fun W => (rn_index1 Try.underlying25 (by kernel_rfl : (Try.prog.info? 3).map (·.size) = some 1) (hF126.get rfl) (hF126.get rfl) (by omega : (0 : Int) ≤ (l.getD i default).a) (by omega : ((l.getD i default).a : Int) < ((nn : Nat) : Int)))) ?_
    intro a127 hF128; clear hF126
    refine any_val (i := 17) (v := (.int .i64 (L.getD (fo + ((l.getD i default).a : Int).toNat) 0))) hF128 (by decide +kernel) (by decide +kernel) rfl rfl rfl rfl (fun _ _ _ _ h => h) (wanted_guard rfl rfl rfl hF128 rfl (decide_eq_false hc67) rfl) hS49 (fun W hW => (rn_load (isAgg_no Try.underlying3 rfl) (hF128.get rfl) (blk_intVals (b60.ext hW.1) (by omega) (by have := (show List.length L = _ from (rfl : L.length = L.length)); omega)))) ?_
    intro a129 hF130; clear hF128
    refine any_pure (i := 18) (v := (.pointer (some ⟨g24, 2, none⟩))) hF130 (by decide +kernel) (by decide +kernel) rfl rfl rfl rfl (fun _ _ _ _ h => h) (wanted_guard rfl rfl rfl hF130 rfl (decide_eq_false hc67) rfl) (fun W => (rn_field Try.underlying41 rfl (by kernel_rfl) (hF130.get rfl) rfl)) ?_
    intro a131 hF132; clear hF130
    refine any_val (i := 19) (v := (.int .i64 ((l.getD i default).w))) hF132 (by decide +kernel) (by decide +kernel) rfl rfl rfl rfl (fun _ _ _ _ h => h) (wanted_guard rfl rfl rfl hF132 rfl (decide_eq_false hc67) rfl) hS49 (fun W hW => (rn_load (isAgg_no Try.underlying3 rfl) (hF132.get rfl) (hW.2.2.rule.1 2))) ?_
    intro a133 hF134; clear hF132
    refine any_pure (i := 20) (v := (.int .i64 ((L.getD (fo + ((l.getD i default).a : Int).toNat) 0) + ((l.getD i default).w)))) hF134 (by decide +kernel) (by decide +kernel) rfl rfl rfl rfl (fun _ _ _ _ h => h) (wanted_guard rfl rfl rfl hF134 rfl (decide_eq_false hc67) rfl) (fun W => (rn_add (hF134.get rfl) (hF134.get rfl) (by omega) (by omega))) ?_
    intro a135 hF136; clear hF134
    refine any_pure (i := 21) (v := (.pointer (some ⟨g, 0, none⟩))) hF136 (by decide +kernel) (by decide +kernel) rfl rfl rfl rfl (fun _ _ _ _ h => h) (wanted_guard rfl rfl rfl hF136 rfl (decide_eq_false hc67) rfl) (fun W => (rn_move (hF136.get rfl))) ?_
    intro a137 hF138; clear hF136
    refine any_pure (i := 22) (v := (.pointer (some ⟨g, 0, none⟩))) hF138 (by decide +kernel) (by decide +kernel) rfl rfl rfl rfl (fun _ _ _ _ h => h) (wanted_guard rfl rfl rfl hF138 rfl (decide_eq_false hc67) rfl) (fun W => (rn_nil (hF138.get rfl))) ?_
    intro a139 hF140; clear hF138
    refine any_pure (i := 23) (v := (.pointer (some ⟨g, 2, none⟩))) hF140 (by decide +kernel) (by decide +kernel) rfl rfl rfl rfl (fun _ _ _ _ h => h) (wanted_guard rfl rfl rfl hF140 rfl (decide_eq_false hc67) rfl) (fun W => (rn_field Try.underlying61 rfl (by kernel_rfl) (hF140.get rfl) rfl)) ?_
    intro a141 hF142; clear hF140
    refine any_val (i := 24) (v := (.slice (some ⟨fb, fo, none⟩) nn fc)) hF142 (by decide +kernel) (by decide +kernel) rfl rfl rfl rfl (fun _ _ _ _ h => h) (wanted_guard rfl rfl rfl hF142 rfl (decide_eq_false hc67) rfl) hS49 (fun W hW => (rn_load (isAgg_no Try.underlying25 rfl) (hF142.get rfl) (hW.2.1.rule.1 2))) ?_
    intro a143 hF144; clear hF142
    refine any_pure (i := 25) (v := (.pointer (some ⟨g24, 1, none⟩))) hF144 (by decide +kernel) (by decide +kernel) rfl rfl rfl rfl (fun _ _ _ _ h => h) (wanted_guard rfl rfl rfl hF144 rfl (decide_eq_false hc67) rfl) (fun W => (rn_field Try.underlying41 rfl (by kernel_rfl) (hF144.get rfl) rfl)) ?_
    intro a145 hF146; clear hF144
    refine any_val (i := 26) (v := (.int .i64 ((l.getD i default).b))) hF146 (by decide +kernel) (by decide +kernel) rfl rfl rfl rfl (fun _ _ _ _ h => h) (wanted_guard rfl rfl rfl hF146 rfl (decide_eq_false hc67) rfl) hS49 (fun W hW => (rn_load (isAgg_no Try.underlying3 rfl) (hF146.get rfl) (hW.2.2.rule.1 1))) ?_
    intro a147 hF148; clear hF146
    refine any_pure (i := 27) (v := (.pointer (some ⟨fb, fo + ((l.getD i default).b : Int).toNat, none⟩))) hF148 (by decide +kernel) (by decide +kernel) rfl rfl rfl rfl (fun _ _ _ _ h => h) (wanted_guard rfl rfl rfl hF148 rfl (decide_eq_false hc67) rfl) (fun W => (rn_index1 Try.underlying25 (by kernel_rfl : (Try.prog.info? 3).map (·.size) = some 1) (hF148.get rfl) (hF148.get rfl) (by omega : (0 : Int) ≤ (l.getD i default).b) (by omega : ((l.getD i default).b : Int) < ((nn : Nat) : Int)))) ?_
    intro a149 hF150; clear hF148
    refine any_val (i := 28) (v := (.int .i64 (L.getD (fo + ((l.getD i default).b : Int).toNat) 0))) hF150 (by decide +kernel) (by decide +kernel) rfl rfl rfl rfl (fun _ _ _ _ h => h) (wanted_guard rfl rfl rfl hF150 rfl (decide_eq_false hc67) rfl) hS49 (fun W hW => (rn_load (isAgg_no Try.underlying3 rfl) (hF150.get rfl) (blk_intVals (b60.ext hW.1) (by omega) (by have := (show List.length L = _ from (rfl : L.length = L.length)); omega)))) ?_
    intro a151 hF152; clear hF150
    refine any_pure (i := 29) (v := (.bool (decide (((L.getD (fo + ((l.getD i default).b : Int).toNat) 0) : Int) ≤ ((L.getD (fo + ((l.getD i default).a : Int).toNat) 0) + ((l.getD i default).w) : Int))))) hF152 (by decide +kernel) (by decide +kernel) rfl rfl rfl rfl (fun _ _ _ _ h => h) (wanted_guard rfl rfl rfl hF152 rfl (decide_eq_false hc67) rfl) (fun W => (rn_geq (hF152.get rfl) (hF152.get rfl))) ?_
    intro a153 hF154; clear hF152
    refine any_pure (i := 30) (v := (.bool (decide (((L.getD (fo + ((l.getD i default).b : Int).toNat) 0) : Int) ≤ ((L.getD (fo + ((l.getD i default).a : Int).toNat) 0) + ((l.getD i default).w) : Int))))) hF154 (by decide +kernel) (by decide +kernel) rfl rfl rfl rfl (fun _ _ _ _ h => h) rfl (fun W => (rn_pickF (c_false hF154 rfl (decide_eq_false hc67)) (hF154.get rfl))) ?_
    intro a155 hF156; clear hF154
    refine any_nil (by decide +kernel) ?_
    refine hK38 _ _ ?_
    clear hK38
    have hF157 := (((((hF156.nil.cons (hF156.get (t := 44) (v := (.bool (decide (((L.getD (fo + ((l.getD i default).b : Int).toNat) 0) : Int) ≤ ((L.getD (fo + ((l.getD i default).a : Int).toNat) 0) + ((l.getD i default).w) : Int))))) rfl)).cons (hF156.get (t := 5) (v := (.pointer (some ⟨g24, 0, none⟩))) rfl)).cons (hF156.get (t := 4) (v := (.bool false)) rfl)).cons (hF156.get (t := 1) (v := (.int .i64 (i : Nat))) rfl)).cons (hF156.get (t := 0) (v := (.pointer (some ⟨g, 0, none⟩))) rfl))
    clear hF156
    by_cases hc158 : ((L.getD (fo + ((l.getD i default).b : Int).toNat) 0) : Int) ≤ ((L.getD (fo + ((l.getD i default).a : Int).toNat) 0) + ((l.getD i default).w) : Int)
    · skip
      refine wp_cond_true (c_true hF157 rfl (decide_eq_true hc158)) ?_
      refine wp_seq_k (fun K159 hK159 => ?_)
      refine wp_region_lit ?_
      refine wpl_op (i := 0) rfl (o_val (v := (.bool false)) hF157 rfl rfl rfl rfl (rn_assign rfl) ?_)
      intro a160 hF161; clear hF157
      refine wpList_nil ?_
      refine hK159 _ _ ?_
      clear hK159
      refine wp_ret ?_
      refine ret_then ?_
      refine ret1 hF161 rfl rfl ?_
      have hno : noc L fo (l.getD i default) = true := noc_t2 (by omega)
      have b162 : Blk w39 eb 3 (intVals D) := (((heb.ext hx27).grownN hg34 (by omega)).ext hx40)
      exact ⟨by rw [hno]; rfl, by rw [relL, if_pos hno]; exact b60, by rw [relD, if_pos hno]; exact b162, ((((Two.refl w fb eb).ext hx27).grown hg34 (by omega)).ext hx40)⟩
    · skip
      refine wp_cond_false (c_false hF157 rfl (decide_eq_false hc158)) ?_
      refine wp_skip ?_
      refine hK37 _ _ ?_
      clear hK37
      refine wp_seq_k (fun K163 hK163 => ?_)
      have hx165 : ∃ W, w39.drew = W ∧ Ext w39 W := ⟨_, rfl, (Ext.refl _).drew⟩
      obtain ⟨w164, e166, hx165⟩ := hx165
      have z167 := hx165.size
      refine any_start (fun W => Ext w164 W ∧ Blk W g 61 [(.int .i64 (nn : Nat)), (.slice A l.length c), (.slice (some ⟨fb, fo, none⟩) nn fc), (.slice (some ⟨eb, 0, none⟩) nn ec)] ∧ Blk W g24 41 [(.int .i64 ((l.getD i default).a)), (.int .i64 ((l.getD i default).b)), (.int .i64 ((l.getD i default).w))]) (fun i => i == 18) 19 #[false, false, false, false, false, false, false, false, false, false, false, false, false, false, false, false, false, false, false] rfl rfl rfl ?_
      rw [e166]; clear e166
      refine any_pure (i := 0) (v := (.pointer (some ⟨g, 0, none⟩))) hF157 (by decide +kernel) (by decide +kernel) rfl rfl rfl rfl (fun _ _ _ _ h => h) rfl (fun W => (rn_move (hF157.get rfl))) ?_
      intro a168 hF169; clear hF157
      refine any_pure (i := 1) (v := (.pointer (some ⟨g, 0, none⟩))) hF169 (by decide +kernel) (by decide +kernel) rfl rfl rfl rfl (fun _ _ _ _ h => h) rfl (fun W => (rn_nil (hF169.get rfl))) ?_
      intro a170 hF171; clear hF169
      refine any_pure (i := 2) (v := (.pointer (some ⟨g, 2, none⟩))) hF171 (by decide +kernel) (by decide +kernel) rfl rfl rfl rfl (fun _ _ _ _ h => h) rfl (fun W => (rn_field Try.underlying61 rfl (by kernel_rfl) (hF171.get rfl) rfl)) ?_
      intro a172 hF173; clear hF171
      have b175 : Blk w164 g 61 [(.int .i64 (nn : Nat)), (.slice A l.length c), (.slice (some ⟨fb, fo, none⟩) nn fc), (.slice (some ⟨eb, 0, none⟩) nn ec)] := (b50.ext hx165)
      have b176 : Blk w164 g24 41 [(.int .i64 ((l.getD i default).a)), (.int .i64 ((l.getD i default).b)), (.int .i64 ((l.getD i default).w))] := (b51.ext hx165)
      have hS174 : Ext w164 w164 ∧ Blk w164 g 61 [(.int .i64 (nn : Nat)), (.slice A l.length c), (.slice (some ⟨fb, fo, none⟩) nn fc), (.slice (some ⟨eb, 0, none⟩) nn ec)] ∧ Blk w164 g24 41 [(.int .i64 ((l.getD i default).a)), (.int .i64 ((l.getD i default).b)), (.int .i64 ((l.getD i default).w))] := ⟨(Ext.refl w164), b175, b176⟩
      refine any_val (i := 3) (v := (.slice (some ⟨fb, fo, none⟩) nn fc)) hF173 (by decide +kernel) (by decide +kernel) rfl rfl rfl rfl (fun _ _ _ _ h => h) rfl hS174 (fun W hW => (rn_load (isAgg_no Try.underlying25 rfl) (hF173.get rfl) (hW.2.1.rule.1 2))) ?_
      intro a177 hF178; clear hF173
      refine any_pure (i := 4) (v := (.pointer (some ⟨g24, 1, none⟩))) hF178 (by decide +kernel) (by decide +kernel) rfl rfl rfl rfl (fun _ _ _ _ h => h) rfl (fun W => (rn_field Try.underlying41 rfl (by kernel_rfl) (hF178.get rfl) rfl)) ?_
      intro a179 hF180; clear hF178
      refine any_val (i := 5) (v := (.int .i64 ((l.getD i default).b))) hF180 (by decide +kernel) (by decide +kernel) rfl rfl rfl rfl (fun _ _ _ _ h => h) rfl hS174 (fun W hW => (rn_load (isAgg_no Try.underlying3 rfl) (hF180.get rfl) (hW.2.2.rule.1 1))) ?_
      intro a181 hF182; clear hF180
      refine any_pure (i := 6) (v := (.pointer (some ⟨g, 0, none⟩))) hF182 (by decide +kernel) (by decide +kernel) rfl rfl rfl rfl (fun _ _ _ _ h => h) rfl (fun W => (rn_move (hF182.get rfl))) ?_
      intro a183 hF184; clear hF182
      refine any_pure (i := 7) (v := (.pointer (some ⟨g, 0, none⟩))) hF184 (by decide +kernel) (by decide +kernel) rfl rfl rfl rfl (fun _ _ _ _ h => h) rfl (fun W => (rn_nil (hF184.get rfl))) ?_
      intro a185 hF186; clear hF184
      refine any_pure (i := 8) (v := (.pointer (some ⟨g, 2, none⟩))) hF186 (by decide +kernel) (by decide +kernel) rfl rfl rfl rfl (fun _ _ _ _ h => h) rfl (fun W => (rn_field Try.underlying61 rfl (by kernel_rfl) (hF186.get rfl) rfl)) ?_
      intro a187 hF188; clear hF186
      refine any_val (i := 9) (v := (.slice (some ⟨fb, fo, none⟩) nn fc)) hF188 (by decide +kernel) (by decide +kernel) rfl rfl rfl rfl (fun _ _ _ _ h => h) rfl hS174 (fun W hW => (rn_load (isAgg_no Try.underlying25 rfl) (hF188.get rfl) (hW.2.1.rule.1 2))) ?_
      intro a189 hF190; clear hF188
      refine any_pure (i := 10) (v := (.pointer (some ⟨g24, 0, none⟩))) hF190 (by decide +kernel) (by decide +kernel) rfl rfl rfl rfl (fun _ _ _ _ h => h) rfl (fun W => (rn_field Try.underlying41 rfl (by kernel_rfl) (hF190.get rfl) rfl)) ?_
      intro a191 hF192; clear hF190
      refine any_val (i := 11) (v := (.int .i64 ((l.getD i default).a))) hF192 (by decide +kernel) (by decide +kernel) rfl rfl rfl rfl (fun _ _ _ _ h => h) rfl hS174 (fun W hW => (rn_load (isAgg_no Try.underlying3 rfl) (hF192.get rfl) (hW.2.2.rule.1 0))) ?_
      intro a193 hF194; clear hF192
      refine any_pure (i := 12) (v := (.pointer (some ⟨fb, fo + ((l.getD i default).a : Int).toNat, none⟩))) hF194 (by decide +kernel) (by decide +kernel) rfl rfl rfl rfl (fun _ _ _ _ h => h) rfl (fun W => (rn_index1 Try.underlying25 (by kernel_rfl : (Try.prog.info? 3).map (·.size) = some 1) (hF194.get rfl) (hF194.get rfl) (by omega : (0 : Int) ≤ (l.getD i default).a) (by omega : ((l.getD i default).a : Int) < ((nn : Nat) : Int)))) ?_
      intro a195 hF196; clear hF194
      have b197 : Blk w164 fb 3 (intVals L) := (b60.ext hx165)
      refine any_val (i := 13) (v := (.int .i64 (L.getD (fo + ((l.getD i default).a : Int).toNat) 0))) hF196 (by decide +kernel) (by decide +kernel) rfl rfl rfl rfl (fun _ _ _ _ h => h) rfl hS174 (fun W hW => (rn_load (isAgg_no Try.underlying3 rfl) (hF196.get rfl) (blk_intVals (b197.ext hW.1) (by omega) (by have := (show List.length L = _ from (rfl : L.length = L.length)); omega)))) ?_
      intro a198 hF199; clear hF196
      refine any_pure (i := 14) (v := (.pointer (some ⟨g24, 2, none⟩))) hF199 (by decide +kernel) (by decide +kernel) rfl rfl rfl rfl (fun _ _ _ _ h => h) rfl (fun W => (rn_field Try.underlying41 rfl (by kernel_rfl) (hF199.get rfl) rfl)) ?_
      intro a200 hF201; clear hF199
      refine any_val (i := 15) (v := (.int .i64 ((l.getD i default).w))) hF201 (by decide +kernel) (by decide +kernel) rfl rfl rfl rfl (fun _ _ _ _ h => h) rfl hS174 (fun W hW => (rn_load (isAgg_no Try.underlying3 rfl) (hF201.get rfl) (hW.2.2.rule.1 2))) ?_
      intro a202 hF203; clear hF201
      refine any_pure (i := 16) (v := (.int .i64 ((L.getD (fo + ((l.getD i default).a : Int).toNat) 0) + ((l.getD i default).w)))) hF203 (by decide +kernel) (by decide +kernel) rfl rfl rfl rfl (fun _ _ _ _ h => h) rfl (fun W => (rn_add (hF203.get rfl) (hF203.get rfl) (by omega) (by omega))) ?_
      intro a204 hF205; clear hF203
      refine any_pure (i := 17) (v := (.pointer (some ⟨fb, fo + ((l.getD i default).b : Int).toNat, none⟩))) hF205 (by decide +kernel) (by decide +kernel) rfl rfl rfl rfl (fun _ _ _ _ h => h) rfl (fun W => (rn_index1 Try.underlying25 (by kernel_rfl : (Try.prog.info? 3).map (·.size) = some 1) (hF205.get rfl) (hF205.get rfl) (by omega : (0 : Int) ≤ (l.getD i default).b) (by omega : ((l.getD i default).b : Int) < ((nn : Nat) : Int)))) ?_
      intro a206 hF207; clear hF205
      refine any_one (i := 18) (by decide +kernel) rfl ?_
      refine o_store1 (new := (intVals (L.set (fo + ((l.getD i default).b : Int).toNat) ((L.getD (fo + ((l.getD i default).a : Int).toNat) 0) + ((l.getD i default).w))))) hF207 rfl rfl rfl rfl (hF207.get rfl) (hF207.get rfl) b197 (by kernel_rfl : (Try.prog.info? 3).map (·.size) = some 1) (by rw [intVals_len (rfl : L.length = L.length)]; omega) rfl (intVals_set (by omega)) ?_
      intro w208 b209 hg210; have z211 := hg210.size
      refine ⟨fun h => absurd h (by decide), ?_⟩
      refine any_nil (by decide +kernel) ?_
      refine hK163 _ _ ?_
      clear hK163
      have hF212 := (((((hF207.nil.cons (hF207.get (t := 44) (v := (.bool (decide (((L.getD (fo + ((l.getD i default).b : Int).toNat) 0) : Int) ≤ ((L.getD (fo + ((l.getD i default).a : Int).toNat) 0) + ((l.getD i default).w) : Int))))) rfl)).cons (hF207.get (t := 5) (v := (.pointer (some ⟨g24, 0, none⟩))) rfl)).cons (hF207.get (t := 4) (v := (.bool false)) rfl)).cons (hF207.get (t := 1) (v := (.int .i64 (i : Nat))) rfl)).cons (hF207.get (t := 0) (v := (.pointer (some ⟨g, 0, none⟩))) rfl))
      clear hF207
      refine wp_seq_k (fun K213 hK213 => ?_)
      have hx215 : ∃ W, w208.drew = W ∧ Ext w208 W := ⟨_, rfl, (Ext.refl _).drew⟩
      obtain ⟨w214, e216, hx215⟩ := hx215
      have z217 := hx215.size
      refine any_start (fun W => Ext w214 W ∧ Blk W g 61 [(.int .i64 (nn : Nat)), (.slice A l.length c), (.slice (some ⟨fb, fo, none⟩) nn fc), (.slice (some ⟨eb, 0, none⟩) nn ec)] ∧ Blk W g24 41 [(.int .i64 ((l.getD i default).a)), (.int .i64 ((l.getD i default).b)), (.int .i64 ((l.getD i default).w))]) (fun i => i == 8) 9 #[false, false, false, false, false, false, false, false, false] rfl rfl rfl ?_
      rw [e216]; clear e216
      refine any_pure (i := 0) (v := (.pointer (some ⟨g, 0, none⟩))) hF212 (by decide +kernel) (by decide +kernel) rfl rfl rfl rfl (fun _ _ _ _ h => h) rfl (fun W => (rn_move (hF212.get rfl))) ?_
      intro a218 hF219; clear hF212
      refine any_pure (i := 1) (v := (.pointer (some ⟨g, 0, none⟩))) hF219 (by decide +kernel) (by decide +kernel) rfl rfl rfl rfl (fun _ _ _ _ h => h) rfl (fun W => (rn_nil (hF219.get rfl))) ?_
      intro a220 hF221; clear hF219
      refine any_pure (i := 2) (v := (.pointer (some ⟨g, 3, none⟩))) hF221 (by decide +kernel) (by decide +kernel) rfl rfl rfl rfl (fun _ _ _ _ h => h) rfl (fun W => (rn_field Try.underlying61 rfl (by kernel_rfl) (hF221.get rfl) rfl)) ?_
      intro a222 hF223; clear hF221
      have b225 : Blk w214 g 61 [(.int .i64 (nn : Nat)), (.slice A l.length c), (.slice (some ⟨fb, fo, none⟩) nn fc), (.slice (some ⟨eb, 0, none⟩) nn ec)] := ((b175.grownN hg210 (by omega)).ext hx215)
      have b226 : Blk w214 g24 41 [(.int .i64 ((l.getD i default).a)), (.int .i64 ((l.getD i default).b)), (.int .i64 ((l.getD i default).w))] := ((b176.grownN hg210 (by omega)).ext hx215)
      have hS224 : Ext w214 w214 ∧ Blk w214 g 61 [(.int .i64 (nn : Nat)), (.slice A l.length c), (.slice (some ⟨fb, fo, none⟩) nn fc), (.slice (some ⟨eb, 0, none⟩) nn ec)] ∧ Blk w214 g24 41 [(.int .i64 ((l.getD i default).a)), (.int .i64 ((l.getD i default).b)), (.int .i64 ((l.getD i default).w))] := ⟨(Ext.refl w214), b225, b226⟩
      refine any_val (i := 3) (v := (.slice (some ⟨eb, 0, none⟩) nn ec)) hF223 (by decide +kernel) (by decide +kernel) rfl rfl rfl rfl (fun _ _ _ _ h => h) rfl hS224 (fun W hW => (rn_load (isAgg_no Try.underlying25 rfl) (hF223.get rfl) (hW.2.1.rule.1 3))) ?_
      intro a227 hF228; clear hF223
      refine any_pure (i := 4) (v := (.pointer (some ⟨g24, 1, none⟩))) hF228 (by decide +kernel) (by decide +kernel) rfl rfl rfl rfl (fun _ _ _ _ h => h) rfl (fun W => (rn_field Try.underlying41 rfl (by kernel_rfl) (hF228.get rfl) rfl)) ?_
      intro a229 hF230; clear hF228
      refine any_val (i := 5) (v := (.int .i64 ((l.getD i default).b))) hF230 (by decide +kernel) (by decide +kernel) rfl rfl rfl rfl (fun _ _ _ _ h => h) rfl hS224 (fun W hW => (rn_load (isAgg_no Try.underlying3 rfl) (hF230.get rfl) (hW.2.2.rule.1 1))) ?_
      intro a231 hF232; clear hF230
      refine any_pure (i := 6) (v := (.int .i64 (i : Nat))) hF232 (by decide +kernel) (by decide +kernel) rfl rfl rfl rfl (fun _ _ _ _ h => h) rfl (fun W => (rn_move (hF232.get rfl))) ?_
      intro a233 hF234; clear hF232
      refine any_pure (i := 7) (v := (.pointer (some ⟨eb, 0 + ((l.getD i default).b : Int).toNat, none⟩))) hF234 (by decide +kernel) (by decide +kernel) rfl rfl rfl rfl (fun _ _ _ _ h => h) rfl (fun W => (rn_index1 Try.underlying25 (by kernel_rfl : (Try.prog.info? 3).map (·.size) = some 1) (hF234.get rfl) (hF234.get rfl) (by omega : (0 : Int) ≤ (l.getD i default).b) (by omega : ((l.getD i default).b : Int) < ((nn : Nat) : Int)))) ?_
      intro a235 hF236; clear hF234
      refine any_one (i := 8) (by decide +kernel) rfl ?_
      have b240 : Blk w214 eb 3 (intVals D) := ((((((heb.ext hx27).grownN hg34 (by omega)).ext hx40).ext hx165).grownN hg210 (by omega)).ext hx215)
      refine o_store1 (new := (intVals (D.set (((l.getD i default).b : Int).toNat) (i : Nat)))) hF236 rfl rfl rfl rfl (hF236.get rfl) (hF236.get rfl) b240 (by kernel_rfl : (Try.prog.info? 3).map (·.size) = some 1) (by rw [intVals_len hD]; omega) rfl (intVals_set (by omega)) ?_
      intro w237 b238 hg239; have z241 := hg239.size
      refine ⟨fun h => absurd h (by decide), ?_⟩
      refine any_nil (by decide +kernel) ?_
      refine hK213 _ _ ?_
      clear hK213
      have hF242 := (((((hF236.nil.cons (hF236.get (t := 44) (v := (.bool (decide (((L.getD (fo + ((l.getD i default).b : Int).toNat) 0) : Int) ≤ ((L.getD (fo + ((l.getD i default).a : Int).toNat) 0) + ((l.getD i default).w) : Int))))) rfl)).cons (hF236.get (t := 5) (v := (.pointer (some ⟨g24, 0, none⟩))) rfl)).cons (hF236.get (t := 4) (v := (.bool false)) rfl)).cons (hF236.get (t := 1) (v := (.int .i64 (i : Nat))) rfl)).cons (hF236.get (t := 0) (v := (.pointer (some ⟨g, 0, none⟩))) rfl))
      clear hF236
      refine wp_seq_k (fun K243 hK243 => ?_)
      refine wp_region_lit ?_
      refine wpl_op (i := 0) rfl (o_val (v := (.bool true)) hF242 rfl rfl rfl rfl (rn_assign rfl) ?_)
      intro a244 hF245; clear hF242
      refine wpList_nil ?_
      refine hK243 _ _ ?_
      clear hK243
      refine wp_ret ?_
      refine ret1 hF245 rfl rfl ?_
      have hno : noc L fo (l.getD i default) = false := noc_f (by omega) (by omega)
      have b246 : Blk w237 fb 3 (intVals (L.set (fo + ((l.getD i default).b : Int).toNat) ((L.getD (fo + ((l.getD i default).a : Int).toNat) 0) + ((l.getD i default).w)))) := ((b209.ext hx215).grownN hg239 (by omega))
      exact ⟨by rw [hno]; rfl, by rw [relL, hno]; exact b246, by rw [relD, hno]; exact b238, ((((((((Two.refl w fb eb).ext hx27).grown hg34 (by omega)).ext hx40).ext hx165).grown hg210 (by omega)).ext hx215).grown hg239 (by omega))⟩

set_option maxRecDepth 100000 in
set_option maxHeartbeats 1000000 in
theorem run_any {G : (Nat → Int) → Prop} (g fb fo fc eb ec nn : Nat) (A : Option Addr) (c : Nat) (l : List E3) (L D : List Int) (w : World) (dflt : Int) (hg : Blk w g 61 [.int .i64 (nn : Nat), .slice A l.length c, .slice (some ⟨fb, fo, none⟩) nn fc, .slice (some ⟨eb, 0, none⟩) nn ec]) (hfb : Blk w fb 3 (intVals L)) (heb : Blk w eb 3 (intVals D)) (hD : D.length = nn) (hL : fo + nn ≤ L.length) (hf : Fl S w 3 (.slice A l.length c) l.length (edVals l)) (hSf : ¬ S fb) (hSe : ¬ S eb) (hne : fb ≠ eb) (hng : g ≠ fb) (hne2 : g ≠ eb) (hv : vOk nn l = true) (h0' : 0 < nn) (h8 : nn ≤ 8) (hm : l.length ≤ 31) (hG : Keeps G (eds l)) (hDp : ∀ j, 0 ≤ D.getD j 0) (h0 : ∀ v, fn nn dflt fo L v = P15.none_ ∨ fn nn dflt fo L v = 0) (hg0 : G (fn nn dflt fo L)) :
    Calls Try.prog 37 #[.pointer (some ⟨g, 0, none⟩)] w (fun e w' => ∃ last L' D', e = .returned (.int .i64 last) ∧ Ran G l nn dflt fo L L' D' last ∧ Blk w' fb 3 (intVals L') ∧ Blk w' eb 3 (intVals D') ∧ Two w w' fb eb) := by
  have hc : Fl (Clip S w) w 3 (.slice A l.length c) l.length (edVals l) := hf.clip
  have hcc := (Fl.cel hc).2.1
  have zg := hg.lt; have zf := hfb.lt; have ze := heb.lt
  refine calls_enter (l := [(.pointer (some ⟨g, 0, none⟩))]) Try.func37 rfl rfl rfl (fun aA hF => ?_)
  refine wp_seq_k (fun K1 hK1 => ?_)
  refine wp_region_lit ?_
  refine wpl_op (i := 0) rfl (o_val (v := (.int .i64 0)) hF rfl rfl rfl rfl (rn_assign rfl) ?_)
  intro a2 hF3; clear hF
  refine wpList_nil ?_
  refine hK1 _ _ ?_
  clear hK1
  refine wp_seq_k (fun K4 hK4 => ?_)
  refine wp_region_lit ?_
  refine wpl_op (i := 0) rfl (o_val (v := (.pointer (some ⟨g, 0, none⟩))) hF3 rfl rfl rfl rfl (rn_move (hF3.get rfl)) ?_)
  intro a5 hF6; clear hF3
  refine wpl_op (i := 1) rfl (o_val (v := (.func (.func 40) #[(.pointer (some ⟨g, 0, none⟩))] #[])) hF6 rfl rfl rfl rfl (rn_makeFunc (args1 (hF6.get rfl)) (args0)) ?_)
  intro a7 hF8; clear hF6
  refine wpl_op (i := 2) rfl (o_val (v := (.func (.func 40) #[(.pointer (some ⟨g, 0, none⟩))] #[])) hF8 rfl rfl rfl rfl (rn_assign (hF8.get rfl)) ?_)
  intro a9 hF10; clear hF8
  refine wpList_nil ?_
  refine hK4 _ _ ?_
  clear hK4
  refine wp_seq_k (fun K11 hK11 => ?_)
  refine wp_seq_k (fun K12 hK12 => ?_)
  refine wp_region_lit ?_
  refine wpl_op (i := 0) rfl (o_val (v := (.pointer (some ⟨g, 0, none⟩))) hF10 rfl rfl rfl rfl (rn_move (hF10.get rfl)) ?_)
  intro a13 hF14; clear hF10
  refine wpl_op (i := 1) rfl (o_val (v := (.pointer (some ⟨g, 0, none⟩))) hF14 rfl rfl rfl rfl (rn_nil (hF14.get rfl)) ?_)
  intro a15 hF16; clear hF14
  refine wpl_op (i := 2) rfl (o_val (v := (.pointer (some ⟨g, 0, none⟩))) hF16 rfl rfl rfl rfl (rn_field Try.underlying61 rfl (by kernel_rfl) (hF16.get rfl) rfl) ?_)
  intro a17 hF18; clear hF16
  refine wpl_op (i := 3) rfl (o_val (v := (.pointer (some ⟨g, 0, none⟩))) hF18 rfl rfl rfl rfl (rn_field Try.underlying24 rfl (by kernel_rfl) (hF18.get rfl) rfl) ?_)
  intro a19 hF20; clear hF18
  refine wpl_op (i := 4) rfl (o_val (v := (.int .i64 (nn : Nat))) hF20 rfl rfl rfl rfl (rn_load (isAgg_no Try.underlying3 rfl) (hF20.get rfl) (hg.rule.1 0)) ?_)
  intro a21 hF22; clear hF20
  refine wpl_op (i := 5) rfl (o_val (v := (.int .i64 0)) hF22 rfl rfl rfl rfl (rn_move rfl) ?_)
  intro a23 hF24; clear hF22
  refine wpList_nil ?_
  refine hK12 _ _ ?_
  clear hK12
  have hF25 := (((((hF24.nil.cons (hF24.get (t := 12) (v := (.int .i64 0)) rfl)).cons (hF24.get (t := 11) (v := (.int .i64 (nn : Nat))) rfl)).cons (hF24.get (t := 3) (v := (.func (.func 40) #[(.pointer (some ⟨g, 0, none⟩))] #[])) rfl)).cons (hF24.get (t := 2) (v := (.int .i64 0)) rfl)).cons (hF24.get (t := 0) (v := (.pointer (some ⟨g, 0, none⟩))) rfl))
  clear hF24
  refine wp_block ?_
  refine wp_loop (fun a' W => ∃ (k : Nat) (last : Int) (L1 : List Int) (D1 : List Int), Sl 41 [(0, (.pointer (some ⟨g, 0, none⟩))), (2, (.int .i64 last)), (3, (.func (.func 40) #[(.pointer (some ⟨g, 0, none⟩))] #[])), (11, (.int .i64 (nn : Nat))), (12, (.int .i64 (k : Nat)))] a' ∧ k ≤ nn ∧ RH G l nn dflt fo L L1 D1 k last ∧ Two w W fb eb ∧ Blk W g 61 [(.int .i64 (nn : Nat)), (.slice A l.length c), (.slice (some ⟨fb, fo, none⟩) nn fc), (.slice (some ⟨eb, 0, none⟩) nn ec)] ∧ Blk W fb 3 (intVals L1) ∧ Blk W eb 3 (intVals D1) ∧ w.heap.size ≤ W.heap.size) (fun a' _ => nn - (intOf (a'.eval (.tmp 12))).toNat) ⟨0, 0, L, D, (((((hF25.nil.cons (q_get hF25 (t := 12) rfl (by first | rfl | (congr 1; omega) | (congr 1; done)))).cons (q_get hF25 (t := 11) rfl rfl)).cons (q_get hF25 (t := 3) rfl rfl)).cons (q_get hF25 (t := 2) rfl (by first | rfl | (congr 1; omega) | (congr 1; done)))).cons (q_get hF25 (t := 0) rfl rfl)), (by omega), (RH.start hL hD hDp h0 hg0), (Two.refl w fb eb), hg, hfb, heb, (Nat.le_refl _)⟩ ?_
  clear hF25
  rintro a26 w27 ⟨k, last, L1, D1, hF28, hp30, hp31, hx29, b32, b33, b34, hf35⟩
  have hL36 := hF28
  have z37 := hx29.size
  have z38 := b32.lt
  have z39 := b33.lt
  have z40 := b34.lt
  refine wp_seq_k (fun K41 hK41 => ?_)
  refine wp_region_lit ?_
  refine wpl_op (i := 0) rfl (o_val (v := (.bool (decide (((k : Nat) : Int) < ((nn : Nat) : Int))))) hF28 rfl rfl rfl rfl (rn_lss (hF28.get rfl) (hF28.get rfl)) ?_)
  intro a42 hF43; clear hF28
  refine wpList_nil ?_
  refine hK41 _ _ ?_
  clear hK41
  refine wp_seq_k (fun K44 hK44 => ?_)
  by_cases hc45 : ((k : Nat) : Int) < ((nn : Nat) : Int)
  · skip
    refine wp_cond_true (c_true hF43 rfl (decide_eq_true hc45)) ?_
    refine wp_skip ?_
    refine hK44 _ _ ?_
    clear hK44
    refine wp_seq_k (fun K46 hK46 => ?_)
    refine wp_block ?_
    refine wp_seq_k (fun K47 hK47 => ?_)
    refine wp_region_lit ?_
    refine wpl_op (i := 0) rfl (o_val (v := (.int .i64 (-1))) hF43 rfl rfl rfl rfl (rn_assign rfl) ?_)
    intro a48 hF49; clear hF43
    refine wpList_nil ?_
    refine hK47 _ _ ?_
    clear hK47
    refine wp_seq_k (fun K50 hK50 => ?_)
    refine wp_seq_k (fun K51 hK51 => ?_)
    refine wp_region_lit ?_
    refine wpl_op (i := 0) rfl (o_val (v := (.pointer (some ⟨g, 0, none⟩))) hF49 rfl rfl rfl rfl (rn_move (hF49.get rfl)) ?_)
    intro a52 hF53; clear hF49
    refine wpl_op (i := 1) rfl (o_val (v := (.pointer (some ⟨g, 0, none⟩))) hF53 rfl rfl rfl rfl (rn_nil (hF53.get rfl)) ?_)
    intro a54 hF55; clear hF53
    refine wpl_op (i := 2) rfl (o_val (v := (.pointer (some ⟨g, 0, none⟩))) hF55 rfl rfl rfl rfl (rn_field Try.underlying61 rfl (by kernel_rfl) (hF55.get rfl) rfl) ?_)
    intro a56 hF57; clear hF55
    refine wpl_op (i := 3) rfl (o_val (v := (.pointer (some ⟨g, 1, none⟩))) hF57 rfl rfl rfl rfl (rn_field Try.underlying24 rfl (by kernel_rfl) (hF57.get rfl) rfl) ?_)
    intro a58 hF59; clear hF57
    refine wpl_op (i := 4) rfl (o_val (v := (.slice A l.length c)) hF59 rfl rfl rfl rfl (rn_load (isAgg_no Try.underlying22 rfl) (hF59.get rfl) (b32.rule.1 1)) ?_)
    intro a60 hF61; clear hF59
    refine wpl_op (i := 5) rfl (o_val (v := (.int .i64 (l.length : Nat))) hF61 rfl rfl rfl rfl (rn_len_slice Try.underlying22 (hF61.get rfl)) ?_)
    intro a62 hF63; clear hF61
    refine wpl_op (i := 6) rfl (o_val (v := (.int .i64 0)) hF63 rfl rfl rfl rfl (rn_move rfl) ?_)
    intro a64 hF65; clear hF63
    refine wpList_nil ?_
    refine hK51 _ _ ?_
    clear hK51
    have hF66 := ((((((((hF65.nil.cons (hF65.get (t := 20) (v := (.int .i64 0)) rfl)).cons (hF65.get (t := 19) (v := (.int .i64 (l.length : Nat))) rfl)).cons (hF65.get (t := 13) (v := (.bool (decide (((k : Nat) : Int) < ((nn : Nat) : Int))))) rfl)).cons (hF65.get (t := 12) (v := (.int .i64 (k : Nat))) rfl)).cons (hF65.get (t := 11) (v := (.int .i64 (nn : Nat))) rfl)).cons (hF65.get (t := 3) (v := (.func (.func 40) #[(.pointer (some ⟨g, 0, none⟩))] #[])) rfl)).cons (hF65.get (t := 2) (v := (.int .i64 (-1))) rfl)).cons (hF65.get (t := 0) (v := (.pointer (some ⟨g, 0, none⟩))) rfl))
    clear hF65
    refine wp_block ?_
    refine wp_loop (fun a' W => ∃ (q : Nat) (last2 : Int) (L2 : List Int) (D2 : List Int), Sl 41 [(0, (.pointer (some ⟨g, 0, none⟩))), (2, (.int .i64 last2)), (3, (.func (.func 40) #[(.pointer (some ⟨g, 0, none⟩))] #[])), (11, (.int .i64 (nn : Nat))), (12, (.int .i64 (k : Nat))), (13, (.bool (decide (((k : Nat) : Int) < ((nn : Nat) : Int))))), (19, (.int .i64 (l.length : Nat))), (20, (.int .i64 (q : Nat)))] a' ∧ q ≤ l.length ∧ RI G l nn dflt fo L L2 D2 (k + 1) q last2 ∧ Two w W fb eb ∧ Blk W g 61 [(.int .i64 (nn : Nat)), (.slice A l.length c), (.slice (some ⟨fb, fo, none⟩) nn fc), (.slice (some ⟨eb, 0, none⟩) nn ec)] ∧ Blk W fb 3 (intVals L2) ∧ Blk W eb 3 (intVals D2) ∧ w27.heap.size ≤ W.heap.size) (fun a' _ => l.length - (intOf (a'.eval (.tmp 20))).toNat) ⟨0, (-1), L1, D1, ((((((((hF66.nil.cons (q_get hF66 (t := 20) rfl (by first | rfl | (congr 1; omega) | (congr 1; done)))).cons (q_get hF66 (t := 19) rfl rfl)).cons (q_get hF66 (t := 13) rfl rfl)).cons (q_get hF66 (t := 12) rfl rfl)).cons (q_get hF66 (t := 11) rfl rfl)).cons (q_get hF66 (t := 3) rfl rfl)).cons (q_get hF66 (t := 2) rfl (by first | rfl | (congr 1; omega) | (congr 1; done)))).cons (q_get hF66 (t := 0) rfl rfl)), (by omega), (RH.round hp31), ((Two.refl w fb eb).trans hx29), b32, b33, b34, (Nat.le_refl _)⟩ ?_
    clear hF66
    rintro a67 w68 ⟨q, last2, L2, D2, hF69, hp71, hp72, hx70, b73, b74, b75, hf76⟩
    have hL77 := hF69
    have z78 := hx70.size
    have z79 := b73.lt
    have z80 := b74.lt
    have z81 := b75.lt
    refine wp_seq_k (fun K82 hK82 => ?_)
    refine wp_region_lit ?_
    refine wpl_op (i := 0) rfl (o_val (v := (.bool (decide (((q : Nat) : Int) < ((l.length : Nat) : Int))))) hF69 rfl rfl rfl rfl (rn_lss (hF69.get rfl) (hF69.get rfl)) ?_)
    intro a83 hF84; clear hF69
    refine wpList_nil ?_
    refine hK82 _ _ ?_
    clear hK82
    refine wp_seq_k (fun K85 hK85 => ?_)
    by_cases hc86 : ((q : Nat) : Int) < ((l.length : Nat) : Int)
    · skip
      refine wp_cond_true (c_true hF84 rfl (decide_eq_true hc86)) ?_
      refine wp_skip ?_
      refine hK85 _ _ ?_
      clear hK85
      refine wp_seq_k (fun K87 hK87 => ?_)
      refine wp_block ?_
      refine wp_seq_k (fun K88 hK88 => ?_)
      refine wp_region_lit ?_
      refine wpl_op (i := 0) rfl (o_val (v := (.int .i64 (q : Nat))) hF84 rfl rfl rfl rfl (rn_move (hF84.get rfl)) ?_)
      intro a89 hF90; clear hF84
      refine wpl_op (i := 1) rfl (o_val (v := (.int .i64 (q : Nat))) hF90 rfl rfl rfl rfl (rn_assign (hF90.get rfl)) ?_)
      intro a91 hF92; clear hF90
      refine wpList_nil ?_
      refine hK88 _ _ ?_
      clear hK88
      refine wp_seq_k (fun K93 hK93 => ?_)
      refine wp_region_lit ?_
      refine wpl_op (i := 0) rfl (o_val (v := (.func (.func 40) #[(.pointer (some ⟨g, 0, none⟩))] #[])) hF92 rfl rfl rfl rfl (rn_move (hF92.get rfl)) ?_)
      intro a94 hF95; clear hF92
      refine wpl_op (i := 1) rfl (o_val (v := (.int .i64 (q : Nat))) hF95 rfl rfl rfl rfl (rn_move (hF95.get rfl)) ?_)
      intro a96 hF97; clear hF95
      have hf98 := b73
      have hf99 := b74
      have hf100 := b75
      have d101 := (hc.pres ((Pres.refl w).trans (hx70.pres (by intro h; simp only [Clip] at h; first | omega | exact hSf h.1 | exact hSe h.1) (by intro h; simp only [Clip] at h; first | omega | exact hSf h.1 | exact hSe h.1))))
      have hf102 := d101
      refine wpl_op (i := 2) rfl (o_call hF97 rfl rfl rfl rfl (rn_callv (hF97.get rfl) (args1_1 (hF97.get rfl)) (by kernel_rfl)) (relax_any g fb fo fc eb ec nn A c l L2 D2 _ q hf98 hf99 hf100 hp72.dlen hp72.len hf102 (fun h => hSf h.1) (fun h => hSe h.1) hne hng hne2 hv (by omega) (fun v hv => RI.small hp72 (by omega) (by omega) hv)) ?_)
      rintro _ w103 ⟨rfl, b104, b105, ht106⟩
      have z112 := ht106.size
      obtain ⟨w107, hg108, hg109⟩ := ht106.split b75.lt
      refine ⟨_, rfl, ?_⟩; intro a110 hF111; clear hF97; have z113 := hg108.size; have z114 := hg109.size
      refine wpList_nil ?_
      refine hK93 _ _ ?_
      clear hK93
      rcases Bool.eq_false_or_eq_true (noc L2 fo (l.getD q default)) with hc115 | hc115
      · skip
        refine wp_cond_false (c_false hF111 rfl (not_t hc115)) ?_
        refine wp_skip ?_
        refine hK87 _ _ ?_
        clear hK87
        refine wp_region_lit ?_
        refine wpl_op (i := 0) rfl (o_val (v := (.int .i64 (q + 1 : Nat))) hF111 rfl rfl rfl rfl (rn_addN (a := q) (b := 1) (hF111.get rfl) rfl (by omega)) ?_)
        intro a116 hF117; clear hF111
        refine wpl_op (i := 1) rfl (o_val (v := (.int .i64 (q + 1 : Nat))) hF117 rfl rfl rfl rfl (rn_move (hF117.get rfl)) ?_)
        intro a118 hF119; clear hF117
        refine wpList_nil ?_
        have b120 : Blk w103 g 61 [(.int .i64 (nn : Nat)), (.slice A l.length c), (.slice (some ⟨fb, fo, none⟩) nn fc), (.slice (some ⟨eb, 0, none⟩) nn ec)] := ((b73.grownN hg108 (by omega)).grownN hg109 (by omega))
        refine ⟨⟨(q + 1), last2, relL L2 fo (l.getD q default), relD L2 fo (l.getD q default) D2 q, ((((((((hF119.nil.cons (q_get hF119 (t := 20) rfl (by first | rfl | (congr 1; omega) | (congr 1; done)))).cons (q_get hF119 (t := 19) rfl rfl)).cons (q_get hF119 (t := 13) rfl rfl)).cons (q_get hF119 (t := 12) rfl rfl)).cons (q_get hF119 (t := 11) rfl rfl)).cons (q_get hF119 (t := 3) rfl rfl)).cons (q_get hF119 (t := 2) rfl (by first | rfl | (congr 1; omega) | (congr 1; done)))).cons (q_get hF119 (t := 0) rfl rfl)), (by omega), (RI.skip hp72 hv (by omega) hc115), ((((Two.refl w fb eb).trans hx70).grown hg108 (by omega)).grown hg109 (by omega)), b120, b104, b105, (by omega)⟩, ?_⟩
        rw [hF119.get (t := 20) rfl, hL77.get (t := 20) rfl]; simp [intOf] <;> omega
      · skip
        refine wp_cond_true (c_true hF111 rfl (not_f hc115)) ?_
        refine wp_region_lit ?_
        refine wpl_op (i := 0) rfl (o_val (v := (.pointer (some ⟨g, 0, none⟩))) hF111 rfl rfl rfl rfl (rn_move (hF111.get rfl)) ?_)
        intro a121 hF122; clear hF111
        refine wpl_op (i := 1) rfl (o_val (v := (.pointer (some ⟨g, 0, none⟩))) hF122 rfl rfl rfl rfl (rn_nil (hF122.get rfl)) ?_)
        intro a123 hF124; clear hF122
        refine wpl_op (i := 2) rfl (o_val (v := (.pointer (some ⟨g, 0, none⟩))) hF124 rfl rfl rfl rfl (rn_field Try.underlying61 rfl (by kernel_rfl) (hF124.get rfl) rfl) ?_)
        intro a125 hF126; clear hF124
        refine wpl_op (i := 3) rfl (o_val (v := (.pointer (some ⟨g, 1, none⟩))) hF126 rfl rfl rfl rfl (rn_field Try.underlying24 rfl (by kernel_rfl) (hF126.get rfl) rfl) ?_)
        intro a127 hF128; clear hF126
        have b129 : Blk w103 g 61 [(.int .i64 (nn : Nat)), (.slice A l.length c), (.slice (some ⟨fb, fo, none⟩) nn fc), (.slice (some ⟨eb, 0, none⟩) nn ec)] := ((b73.grownN hg108 (by omega)).grownN hg109 (by omega))
        refine wpl_op (i := 4) rfl (o_val (v := (.slice A l.length c)) hF128 rfl rfl rfl rfl (rn_load (isAgg_no Try.underlying22 rfl) (hF128.get rfl) (b129.rule.1 1)) ?_)
        intro a130 hF131; clear hF128
        refine wpl_op (i := 5) rfl (o_val (v := (.int .i64 (q : Nat))) hF131 rfl rfl rfl rfl (rn_move (hF131.get rfl)) ?_)
        intro a132 hF133; clear hF131
        have d137 := (hc.pres ((((Pres.refl w).trans (hx70.pres (by intro h; simp only [Clip] at h; first | omega | exact hSf h.1 | exact hSe h.1) (by intro h; simp only [Clip] at h; first | omega | exact hSf h.1 | exact hSe h.1))).grownN hg108 (by intro h; simp only [Clip] at h; first | omega | exact hSf h.1 | exact hSe h.1)).grownN hg109 (by intro h; simp only [Clip] at h; first | omega | exact hSf h.1 | exact hSe h.1)))
        obtain ⟨b134, o135, hA136, -⟩ := Fl.at d137 (by omega)
        refine wpl_op (i := 6) rfl (o_val (v := (.pointer (some ⟨b134, o135 + q * 3, none⟩))) hF133 rfl rfl rfl rfl (rn_indexE Try.underlying22 (by kernel_rfl : (Try.prog.info? 41).map (·.size) = some 3) ((hF133.get rfl).trans (by rw [hA136])) (hF133.get rfl) (by omega : (0 : Int) ≤ (q : Nat)) (by omega : ((q : Nat) : Int) < ((l.length : Nat) : Int)) (by omega)) ?_)
        intro a138 hF139; clear hF133
        refine wpl_op (i := 7) rfl (o_val (v := (.pointer (some ⟨b134, o135 + q * 3 + 1, none⟩))) hF139 rfl rfl rfl rfl (rn_field Try.underlying41 rfl (by kernel_rfl) (hF139.get rfl) rfl) ?_)
        intro a140 hF141; clear hF139
        refine wpl_op (i := 8) rfl (o_val (v := (.int .i64 ((l.getD q default).b))) hF141 rfl rfl rfl rfl (rn_load (isAgg_no Try.underlying3 rfl) (hF141.get rfl) (Fl.recAt edCells_k d137 hA136 (by omega) 1 _ rfl)) ?_)
        intro a142 hF143; clear hF141
        refine wpl_op (i := 9) rfl (o_val (v := (.int .i64 ((l.getD q default).b))) hF143 rfl rfl rfl rfl (rn_assign (hF143.get rfl)) ?_)
        intro a144 hF145; clear hF143
        refine wpList_nil ?_
        refine hK87 _ _ ?_
        clear hK87
        have hF146 := (((((((((((hF145.nil.cons (hF145.get (t := 25) (v := (.bool (!noc L2 fo (l.getD q default)))) rfl)).cons (hF145.get (t := 4) (v := (.int .i64 (q : Nat))) rfl)).cons (hF145.get (t := 21) (v := (.bool (decide (((q : Nat) : Int) < ((l.length : Nat) : Int))))) rfl)).cons (hF145.get (t := 20) (v := (.int .i64 (q : Nat))) rfl)).cons (hF145.get (t := 19) (v := (.int .i64 (l.length : Nat))) rfl)).cons (hF145.get (t := 13) (v := (.bool (decide (((k : Nat) : Int) < ((nn : Nat) : Int))))) rfl)).cons (hF145.get (t := 12) (v := (.int .i64 (k : Nat))) rfl)).cons (hF145.get (t := 11) (v := (.int .i64 (nn : Nat))) rfl)).cons (hF145.get (t := 3) (v := (.func (.func 40) #[(.pointer (some ⟨g, 0, none⟩))] #[])) rfl)).cons (hF145.get (t := 2) (v := (.int .i64 ((l.getD q default).b))) rfl)).cons (hF145.get (t := 0) (v := (.pointer (some ⟨g, 0, none⟩))) rfl))
        clear hF145
        refine wp_region_lit ?_
        refine wpl_op (i := 0) rfl (o_val (v := (.int .i64 (q + 1 : Nat))) hF146 rfl rfl rfl rfl (rn_addN (a := q) (b := 1) (hF146.get rfl) rfl (by omega)) ?_)
        intro a147 hF148; clear hF146
        refine wpl_op (i := 1) rfl (o_val (v := (.int .i64 (q + 1 : Nat))) hF148 rfl rfl rfl rfl (rn_move (hF148.get rfl)) ?_)
        intro a149 hF150; clear hF148
        refine wpList_nil ?_
        refine ⟨⟨(q + 1), (l.getD q default).b, relL L2 fo (l.getD q default), relD L2 fo (l.getD q default) D2 q, ((((((((hF150.nil.cons (q_get hF150 (t := 20) rfl (by first | rfl | (congr 1; omega) | (congr 1; done)))).cons (q_get hF150 (t := 19) rfl rfl)).cons (q_get hF150 (t := 13) rfl rfl)).cons (q_get hF150 (t := 12) rfl rfl)).cons (q_get hF150 (t := 11) rfl rfl)).cons (q_get hF150 (t := 3) rfl rfl)).cons (q_get hF150 (t := 2) rfl (by first | rfl | (congr 1; omega) | (congr 1; done)))).cons (q_get hF150 (t := 0) rfl rfl)), (by omega), (RI.relax hp72 hv hG (by omega) (by omega) hm hc115), ((((Two.refl w fb eb).trans hx70).grown hg108 (by omega)).grown hg109 (by omega)), b129, b104, b105, (by omega)⟩, ?_⟩
        rw [hF150.get (t := 20) rfl, hL77.get (t := 20) rfl]; simp [intOf] <;> omega
    · skip
      refine wp_cond_false (c_false hF84 rfl (decide_eq_false hc86)) ?_
      refine wp_exit ?_
      refine exit_then ?_
      refine exit_then ?_
      refine exit_here ?_
      refine hK50 _ _ ?_
      clear hK50
      refine wp_seq_k (fun K151 hK151 => ?_)
      have hqe : q = l.length := by omega
      have hri := hp72
      rw [hqe] at hri
      refine wp_region_lit ?_
      refine wpl_op (i := 0) rfl (o_val (v := (.int .i64 last2)) hF84 rfl rfl rfl rfl (rn_move (hF84.get rfl)) ?_)
      intro a152 hF153; clear hF84
      refine wpl_op (i := 1) rfl (o_val (v := (.bool (decide ((last2 : Int) < (0 : Int))))) hF153 rfl rfl rfl rfl (rn_lss (hF153.get rfl) rfl) ?_)
      intro a154 hF155; clear hF153
      refine wpList_nil ?_
      refine hK151 _ _ ?_
      clear hK151
      by_cases hc156 : (last2 : Int) < (0 : Int)
      · skip
        refine wp_cond_true (c_true hF155 rfl (decide_eq_true hc156)) ?_
        refine wp_seq_k (fun K157 hK157 => ?_)
        refine wp_region_lit ?_
        refine wpl_op (i := 0) rfl (o_val (v := (.int .i64 last2)) hF155 rfl rfl rfl rfl (rn_move (hF155.get rfl)) ?_)
        intro a158 hF159; clear hF155
        refine wpl_op (i := 1) rfl (o_val (v := (.int .i64 last2)) hF159 rfl rfl rfl rfl (rn_assign (hF159.get rfl)) ?_)
        intro a160 hF161; clear hF159
        refine wpList_nil ?_
        refine hK157 _ _ ?_
        clear hK157
        refine wp_ret ?_
        refine ret_block ?_
        refine ret_then ?_
        refine ret_then ?_
        refine ret_block ?_
        refine ret_then ?_
        refine ret1 hF161 rfl rfl ?_
        exact ⟨last2, L2, D2, rfl, (RI.ran hri rfl (by omega) (by omega) hm), b74, b75, ((Two.refl w fb eb).trans hx70)⟩
      · skip
        refine wp_cond_false (c_false hF155 rfl (decide_eq_false hc156)) ?_
        refine wp_skip ?_
        refine hK46 _ _ ?_
        clear hK46
        refine wp_region_lit ?_
        refine wpl_op (i := 0) rfl (o_val (v := (.int .i64 (k + 1 : Nat))) hF155 rfl rfl rfl rfl (rn_addN (a := k) (b := 1) (hF155.get rfl) rfl (by omega)) ?_)
        intro a162 hF163; clear hF155
        refine wpl_op (i := 1) rfl (o_val (v := (.int .i64 (k + 1 : Nat))) hF163 rfl rfl rfl rfl (rn_move (hF163.get rfl)) ?_)
        intro a164 hF165; clear hF163
        refine wpList_nil ?_
        refine ⟨⟨(k + 1), last2, L2, D2, (((((hF165.nil.cons (q_get hF165 (t := 12) rfl (by first | rfl | (congr 1; omega) | (congr 1; done)))).cons (q_get hF165 (t := 11) rfl rfl)).cons (q_get hF165 (t := 3) rfl rfl)).cons (q_get hF165 (t := 2) rfl (by first | rfl | (congr 1; omega) | (congr 1; done)))).cons (q_get hF165 (t := 0) rfl rfl)), (by omega), (RI.next hri (by omega) hm), ((Two.refl w fb eb).trans hx70), b73, b74, b75, (by omega)⟩, ?_⟩
        rw [hF165.get (t := 12) rfl, hL36.get (t := 12) rfl]; simp [intOf] <;> omega
  · skip
    refine wp_cond_false (c_false hF43 rfl (decide_eq_false hc45)) ?_
    refine wp_exit ?_
    refine exit_then ?_
    refine exit_then ?_
    refine exit_here ?_
    refine hK11 _ _ ?_
    clear hK11
    refine wp_seq_k (fun K166 hK166 => ?_)
    refine wp_region_lit ?_
    refine wpl_op (i := 0) rfl (o_val (v := (.int .i64 last)) hF43 rfl rfl rfl rfl (rn_move (hF43.get rfl)) ?_)
    intro a167 hF168; clear hF43
    refine wpl_op (i := 1) rfl (o_val (v := (.int .i64 last)) hF168 rfl rfl rfl rfl (rn_assign (hF168.get rfl)) ?_)
    intro a169 hF170; clear hF168
    refine wpList_nil ?_
    refine hK166 _ _ ?_
    clear hK166
    refine wp_ret ?_
    refine ret1 hF170 rfl rfl ?_
    exact ⟨last, L1, D1, rfl, (RH.ran hp31 (by omega) (by omega) h8 hm), b33, b34, ((Two.refl w fb eb).trans hx29)⟩

end Go.Proofs.Ytjmdodgmoehfkaa
