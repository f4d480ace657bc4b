/- The law BoundsHoldsSpec, walked. -/
import Derived.Test.YtjmdodgmoehfkaaProg
import Derived.Test.YtjmdodgmoehfkaaBndS
import Derived.KernelRfl
namespace Go.Proofs.Ytjmdodgmoehfkaa
open Go.RowKit

variable {S S' : Nat → Prop}

set_option maxRecDepth 100000 in
set_option maxHeartbeats 1000000 in
theorem holdsspec_any (A : Option Addr) (c : Nat) (n : Int) (l : List E3) (V : Option Addr) (vc : Nat) (v : List Int) (w : World) (hf : Fl S w 3 (.slice A l.length c) l.length (edVals l)) (hfv : Fl S' w 1 (.slice V v.length vc) v.length (intVals v)) :
    Calls Try.prog 3 #[.agg #[.int .i64 n, .slice A l.length c], .slice V v.length vc] w (fun e w' => e = .returned (.bool true) ∧ Ext w w') := by
  have hc : Fl (Clip S w) w 3 (.slice A l.length c) l.length (edVals l) := hf.clip
  have hcc := (Fl.cel hc).2.1
  have hv : Fl (Clip S' w) w 1 (.slice V v.length vc) v.length (intVals v) := hfv.clip
  have hcv := (Fl.cel hv).2.1
  refine calls_enter (l := [(.agg #[(.int .i64 n), (.slice A l.length c)]), (.slice V v.length vc)]) Try.func3 rfl rfl rfl (fun aA hF => ?_)
  refine wp_seq_k (fun K1 hK1 => ?_)
  refine wp_region_lit ?_
  refine wpl_op (i := 0) rfl (o_new (fun g => (.pointer (some ⟨g, 0, none⟩))) [(.int .i64 n), (.slice A l.length c)] 24 hF rfl rfl rfl rfl (rn_box (hF.get rfl) (by kernel_rfl)) ?_)
  intro g2 w3 a8 hF9 z6 z7 b4 hx5; clear hF
  refine wpl_op (i := 1) rfl (o_val (v := (.bool false)) hF9 rfl rfl rfl rfl (rn_assign rfl) ?_)
  intro a10 hF11; clear hF9
  refine wpList_nil ?_
  refine hK1 _ _ ?_
  clear hK1
  refine wp_seq_k (fun K12 hK12 => ?_)
  refine wp_seq_k (fun K13 hK13 => ?_)
  refine wp_region_lit ?_
  refine wpl_op (i := 0) rfl (o_call hF11 rfl rfl rfl rfl (rn_call (args0 ) rfl (by kernel_rfl)) (sane_any _) ?_)
  rintro _ w14 ⟨rfl, hx15⟩
  refine ⟨_, rfl, ?_⟩; intro a16 hF17; clear hF11; have z18 := hx15.size
  refine wpl_op (i := 1) rfl (o_val (v := (.bool false)) hF17 rfl rfl rfl rfl (rn_not' (hF17.get rfl) rfl) ?_)
  intro a19 hF20; clear hF17
  refine wpList_nil ?_
  refine hK13 _ _ ?_
  clear hK13
  refine wp_cond_false (c_false hF20 rfl rfl) ?_
  refine wp_skip ?_
  refine hK12 _ _ ?_
  clear hK12
  refine wp_seq_k (fun K21 hK21 => ?_)
  refine wp_seq_k (fun K22 hK22 => ?_)
  refine wp_region_lit ?_
  refine wpl_op (i := 0) rfl (o_val (v := (.pointer (some ⟨g2, 0, none⟩))) hF20 rfl rfl rfl rfl (rn_field Try.underlying24 rfl (by kernel_rfl) (hF20.get rfl) rfl) ?_)
  intro a23 hF24; clear hF20
  have b25 : Blk w14 g2 24 [(.int .i64 n), (.slice A l.length c)] := (b4.ext hx15)
  refine wpl_op (i := 1) rfl (o_val (v := (.int .i64 n)) hF24 rfl rfl rfl rfl (rn_load (isAgg_no Try.underlying3 rfl) (hF24.get rfl) (b25.rule.1 0)) ?_)
  intro a26 hF27; clear hF24
  refine wpl_op (i := 2) rfl (o_val (v := (.bool (decide ((100 : Int) < (n : Int))))) hF27 rfl rfl rfl rfl (rn_gtr (hF27.get rfl) rfl) ?_)
  intro a28 hF29; clear hF27
  refine wpl_op (i := 3) rfl (o_val (v := (.bool (decide ((100 : Int) < (n : Int))))) hF29 rfl rfl rfl rfl (rn_move (hF29.get rfl)) ?_)
  intro a30 hF31; clear hF29
  by_cases hc32 : (100 : Int) < (n : Int)
  · skip
    refine wpl_op (i := 4) rfl (o_skip hF31 rfl (unwanted_guard rfl rfl rfl hF31 rfl (decide_eq_true hc32) rfl) rfl rfl ?_)
    intro a33 hF34; clear hF31
    refine wpl_op (i := 5) rfl (o_skip hF34 rfl (unwanted_guard rfl rfl rfl hF34 rfl (decide_eq_true hc32) rfl) rfl rfl ?_)
    intro a35 hF36; clear hF34
    refine wpl_op (i := 6) rfl (o_skip hF36 rfl (unwanted_guard rfl rfl rfl hF36 rfl (decide_eq_true hc32) rfl) rfl rfl ?_)
    intro a37 hF38; clear hF36
    refine wpl_op (i := 7) rfl (o_skip hF38 rfl (unwanted_guard rfl rfl rfl hF38 rfl (decide_eq_true hc32) rfl) rfl rfl ?_)
    intro a39 hF40; clear hF38
    refine wpl_op (i := 8) rfl (o_val (v := (.bool true)) hF40 rfl rfl rfl rfl (rn_pickT (c_true hF40 rfl (decide_eq_true hc32)) rfl) ?_)
    intro a41 hF42; clear hF40
    refine wpl_op (i := 9) rfl (o_val (v := (.bool true)) hF42 rfl rfl rfl rfl (rn_move (hF42.get rfl)) ?_)
    intro a43 hF44; clear hF42
    refine wpl_op (i := 10) rfl (o_skip hF44 rfl (unwanted_guard rfl rfl rfl hF44 rfl rfl rfl) rfl rfl ?_)
    intro a45 hF46; clear hF44
    refine wpl_op (i := 11) rfl (o_skip hF46 rfl (unwanted_guard rfl rfl rfl hF46 rfl rfl rfl) rfl rfl ?_)
    intro a47 hF48; clear hF46
    refine wpl_op (i := 12) rfl (o_skip hF48 rfl (unwanted_guard rfl rfl rfl hF48 rfl rfl rfl) rfl rfl ?_)
    intro a49 hF50; clear hF48
    refine wpl_op (i := 13) rfl (o_val (v := (.bool true)) hF50 rfl rfl rfl rfl (rn_pickT (c_true hF50 rfl rfl) rfl) ?_)
    intro a51 hF52; clear hF50
    refine wpList_nil ?_
    refine hK22 _ _ ?_
    clear hK22
    have hF53 := ((((((hF52.nil.cons (hF52.get (t := 24) (v := (.bool true)) rfl)).cons (hF52.get (t := 10) (v := (.bool false)) rfl)).cons (hF52.get (t := 4) (v := (.bool false)) rfl)).cons (hF52.get (t := 2) (v := (.pointer (some ⟨g2, 0, none⟩))) rfl)).cons (hF52.get (t := 1) (v := (.slice V v.length vc)) rfl)).cons (hF52.get (t := 0) (v := (.agg #[(.int .i64 n), (.slice A l.length c)])) rfl))
    clear hF52
    refine wp_cond_true (c_true hF53 rfl rfl) ?_
    refine wp_seq_k (fun K54 hK54 => ?_)
    refine wp_region_lit ?_
    refine wpl_op (i := 0) rfl (o_val (v := (.bool true)) hF53 rfl rfl rfl rfl (rn_assign rfl) ?_)
    intro a55 hF56; clear hF53
    refine wpList_nil ?_
    refine hK54 _ _ ?_
    clear hK54
    refine wp_ret ?_
    refine ret_then ?_
    refine ret1 hF56 rfl rfl ?_
    exact ⟨rfl, (((Ext.refl w).trans hx5).trans hx15)⟩
  · skip
    refine wpl_op (i := 4) rfl (o_val (v := (.pointer (some ⟨g2, 1, none⟩))) hF31 rfl (wanted_guard rfl rfl rfl hF31 rfl (decide_eq_false hc32) rfl) rfl rfl (rn_field Try.underlying24 rfl (by kernel_rfl) (hF31.get rfl) rfl) ?_)
    intro a57 hF58; clear hF31
    refine wpl_op (i := 5) rfl (o_val (v := (.slice A l.length c)) hF58 rfl (wanted_guard rfl rfl rfl hF58 rfl (decide_eq_false hc32) rfl) rfl rfl (rn_load (isAgg_no Try.underlying22 rfl) (hF58.get rfl) (b25.rule.1 1)) ?_)
    intro a59 hF60; clear hF58
    refine wpl_op (i := 6) rfl (o_val (v := (.int .i64 (l.length : Nat))) hF60 rfl (wanted_guard rfl rfl rfl hF60 rfl (decide_eq_false hc32) rfl) rfl rfl (rn_len_slice Try.underlying22 (hF60.get rfl)) ?_)
    intro a61 hF62; clear hF60
    refine wpl_op (i := 7) rfl (o_val (v := (.bool (decide ((100 : Int) < ((l.length : Nat) : Int))))) hF62 rfl (wanted_guard rfl rfl rfl hF62 rfl (decide_eq_false hc32) rfl) rfl rfl (rn_gtr (hF62.get rfl) rfl) ?_)
    intro a63 hF64; clear hF62
    refine wpl_op (i := 8) rfl (o_val (v := (.bool (decide ((100 : Int) < ((l.length : Nat) : Int))))) hF64 rfl rfl rfl rfl (rn_pickF (c_false hF64 rfl (decide_eq_false hc32)) (hF64.get rfl)) ?_)
    intro a65 hF66; clear hF64
    refine wpl_op (i := 9) rfl (o_val (v := (.bool (decide ((100 : Int) < ((l.length : Nat) : Int))))) hF66 rfl rfl rfl rfl (rn_move (hF66.get rfl)) ?_)
    intro a67 hF68; clear hF66
    by_cases hc69 : (100 : Int) < ((l.length : Nat) : Int)
    · skip
      refine wpl_op (i := 10) rfl (o_skip hF68 rfl (unwanted_guard rfl rfl rfl hF68 rfl (decide_eq_true hc69) rfl) rfl rfl ?_)
      intro a70 hF71; clear hF68
      refine wpl_op (i := 11) rfl (o_skip hF71 rfl (unwanted_guard rfl rfl rfl hF71 rfl (decide_eq_true hc69) rfl) rfl rfl ?_)
      intro a72 hF73; clear hF71
      refine wpl_op (i := 12) rfl (o_skip hF73 rfl (unwanted_guard rfl rfl rfl hF73 rfl (decide_eq_true hc69) rfl) rfl rfl ?_)
      intro a74 hF75; clear hF73
      refine wpl_op (i := 13) rfl (o_val (v := (.bool true)) hF75 rfl rfl rfl rfl (rn_pickT (c_true hF75 rfl (decide_eq_true hc69)) rfl) ?_)
      intro a76 hF77; clear hF75
      refine wpList_nil ?_
      refine hK22 _ _ ?_
      clear hK22
      have hF78 := ((((((hF77.nil.cons (hF77.get (t := 24) (v := (.bool true)) rfl)).cons (hF77.get (t := 10) (v := (.bool false)) rfl)).cons (hF77.get (t := 4) (v := (.bool false)) rfl)).cons (hF77.get (t := 2) (v := (.pointer (some ⟨g2, 0, none⟩))) rfl)).cons (hF77.get (t := 1) (v := (.slice V v.length vc)) rfl)).cons (hF77.get (t := 0) (v := (.agg #[(.int .i64 n), (.slice A l.length c)])) rfl))
      clear hF77
      refine wp_cond_true (c_true hF78 rfl rfl) ?_
      refine wp_seq_k (fun K79 hK79 => ?_)
      refine wp_region_lit ?_
      refine wpl_op (i := 0) rfl (o_val (v := (.bool true)) hF78 rfl rfl rfl rfl (rn_assign rfl) ?_)
      intro a80 hF81; clear hF78
      refine wpList_nil ?_
      refine hK79 _ _ ?_
      clear hK79
      refine wp_ret ?_
      refine ret_then ?_
      refine ret1 hF81 rfl rfl ?_
      exact ⟨rfl, (((Ext.refl w).trans hx5).trans hx15)⟩
    · skip
      refine wpl_op (i := 10) rfl (o_val (v := (.slice V v.length vc)) hF68 rfl (wanted_guard rfl rfl rfl hF68 rfl (decide_eq_false hc69) rfl) rfl rfl (rn_move (hF68.get rfl)) ?_)
      intro a82 hF83; clear hF68
      refine wpl_op (i := 11) rfl (o_val (v := (.int .i64 (v.length : Nat))) hF83 rfl (wanted_guard rfl rfl rfl hF83 rfl (decide_eq_false hc69) rfl) rfl rfl (rn_len_slice Try.underlying25 (hF83.get rfl)) ?_)
      intro a84 hF85; clear hF83
      refine wpl_op (i := 12) rfl (o_val (v := (.bool (decide ((200 : Int) < ((v.length : Nat) : Int))))) hF85 rfl (wanted_guard rfl rfl rfl hF85 rfl (decide_eq_false hc69) rfl) rfl rfl (rn_gtr (hF85.get rfl) rfl) ?_)
      intro a86 hF87; clear hF85
      refine wpl_op (i := 13) rfl (o_val (v := (.bool (decide ((200 : Int) < ((v.length : Nat) : Int))))) hF87 rfl rfl rfl rfl (rn_pickF (c_false hF87 rfl (decide_eq_false hc69)) (hF87.get rfl)) ?_)
      intro a88 hF89; clear hF87
      refine wpList_nil ?_
      refine hK22 _ _ ?_
      clear hK22
      have hF90 := ((((((hF89.nil.cons (hF89.get (t := 24) (v := (.bool (decide ((200 : Int) < ((v.length : Nat) : Int))))) rfl)).cons (hF89.get (t := 10) (v := (.bool false)) rfl)).cons (hF89.get (t := 4) (v := (.bool false)) rfl)).cons (hF89.get (t := 2) (v := (.pointer (some ⟨g2, 0, none⟩))) rfl)).cons (hF89.get (t := 1) (v := (.slice V v.length vc)) rfl)).cons (hF89.get (t := 0) (v := (.agg #[(.int .i64 n), (.slice A l.length c)])) rfl))
      clear hF89
      by_cases hc91 : (200 : Int) < ((v.length : Nat) : Int)
      · skip
        refine wp_cond_true (c_true hF90 rfl (decide_eq_true hc91)) ?_
        refine wp_seq_k (fun K92 hK92 => ?_)
        refine wp_region_lit ?_
        refine wpl_op (i := 0) rfl (o_val (v := (.bool true)) hF90 rfl rfl rfl rfl (rn_assign rfl) ?_)
        intro a93 hF94; clear hF90
        refine wpList_nil ?_
        refine hK92 _ _ ?_
        clear hK92
        refine wp_ret ?_
        refine ret_then ?_
        refine ret1 hF94 rfl rfl ?_
        exact ⟨rfl, (((Ext.refl w).trans hx5).trans hx15)⟩
      · skip
        refine wp_cond_false (c_false hF90 rfl (decide_eq_false hc91)) ?_
        refine wp_skip ?_
        refine hK21 _ _ ?_
        clear hK21
        refine wp_seq_k (fun K95 hK95 => ?_)
        refine wp_region_lit ?_
        refine wpl_op (i := 0) rfl (o_val (v := (.agg #[(.int .i64 n), (.slice A l.length c)])) hF90 rfl rfl rfl rfl (rn_loadBlk (hF90.get rfl) b25 Try.underlying24 rfl (by kernel_rfl : (Try.prog.info? 24).map (·.size) = some 2)) ?_)
        intro a96 hF97; clear hF90
        refine wpl_op (i := 1) rfl (o_val (v := (.slice V v.length vc)) hF97 rfl rfl rfl rfl (rn_move (hF97.get rfl)) ?_)
        intro a98 hF99; clear hF97
        have d100 := ((hc.ext hx5).ext hx15)
        have d101 := ((hv.ext hx5).ext hx15)
        refine wpl_op (i := 2) rfl (o_call hF99 rfl rfl rfl rfl (rn_call (args2 (hF99.get rfl) (hF99.get rfl)) rfl (by kernel_rfl)) (bholds_at (u := (.slice A l.length c)) (z := (.slice V v.length vc)) n l v _ d100 d101) ?_)
        rintro _ w102 ⟨rfl, hx103⟩
        refine ⟨_, rfl, ?_⟩; intro a104 hF105; clear hF99; have z106 := hx103.size
        refine wpl_op (i := 3) rfl (o_val (v := (.tuple #[(.bool (hld n l v)), (.int .i64 (chk n l))])) hF105 rfl rfl rfl rfl (rn_move (hF105.get rfl)) ?_)
        intro a107 hF108; clear hF105
        refine wpl_op (i := 4) rfl (o_val (v := (.bool (hld n l v))) hF108 rfl rfl rfl rfl (rn_extract (hF108.get rfl) rfl) ?_)
        intro a109 hF110; clear hF108
        refine wpl_op (i := 5) rfl (o_val (v := (.int .i64 (chk n l))) hF110 rfl rfl rfl rfl (rn_extract (hF110.get rfl) rfl) ?_)
        intro a111 hF112; clear hF110
        refine wpl_op (i := 6) rfl (o_val (v := (.bool (hld n l v))) hF112 rfl rfl rfl rfl (rn_assign (hF112.get rfl)) ?_)
        intro a113 hF114; clear hF112
        refine wpl_op (i := 7) rfl (o_val (v := (.int .i64 (chk n l))) hF114 rfl rfl rfl rfl (rn_assign (hF114.get rfl)) ?_)
        intro a115 hF116; clear hF114
        refine wpList_nil ?_
        refine hK95 _ _ ?_
        clear hK95
        have hF117 := ((((((((hF116.nil.cons (hF116.get (t := 6) (v := (.int .i64 (chk n l))) rfl)).cons (hF116.get (t := 5) (v := (.bool (hld n l v))) rfl)).cons (hF116.get (t := 24) (v := (.bool (decide ((200 : Int) < ((v.length : Nat) : Int))))) rfl)).cons (hF116.get (t := 10) (v := (.bool false)) rfl)).cons (hF116.get (t := 4) (v := (.bool false)) rfl)).cons (hF116.get (t := 2) (v := (.pointer (some ⟨g2, 0, none⟩))) rfl)).cons (hF116.get (t := 1) (v := (.slice V v.length vc)) rfl)).cons (hF116.get (t := 0) (v := (.agg #[(.int .i64 n), (.slice A l.length c)])) rfl))
        clear hF116
        refine wp_seq_k (fun K118 hK118 => ?_)
        refine wp_region_lit ?_
        have b119 : Blk w102 g2 24 [(.int .i64 n), (.slice A l.length c)] := (b25.ext hx103)
        refine wpl_op (i := 0) rfl (o_val (v := (.agg #[(.int .i64 n), (.slice A l.length c)])) hF117 rfl rfl rfl rfl (rn_loadBlk (hF117.get rfl) b119 Try.underlying24 rfl (by kernel_rfl : (Try.prog.info? 24).map (·.size) = some 2)) ?_)
        intro a120 hF121; clear hF117
        refine wpl_op (i := 1) rfl (o_val (v := (.slice V v.length vc)) hF121 rfl rfl rfl rfl (rn_move (hF121.get rfl)) ?_)
        intro a122 hF123; clear hF121
        have d124 := (((hc.ext hx5).ext hx15).ext hx103)
        have d125 := (((hv.ext hx5).ext hx15).ext hx103)
        refine wpl_op (i := 2) rfl (o_call hF123 rfl rfl rfl rfl (rn_call (args2 (hF123.get rfl) (hF123.get rfl)) rfl (by kernel_rfl)) (rholds_at (u := (.slice A l.length c)) (z := (.slice V v.length vc)) n l v _ d124 d125) ?_)
        rintro _ w126 ⟨rfl, hx127⟩
        refine ⟨_, rfl, ?_⟩; intro a128 hF129; clear hF123; have z130 := hx127.size
        refine wpl_op (i := 3) rfl (o_val (v := (.tuple #[(.bool (hld n l v)), (.int .i64 (chk n l))])) hF129 rfl rfl rfl rfl (rn_move (hF129.get rfl)) ?_)
        intro a131 hF132; clear hF129
        refine wpl_op (i := 4) rfl (o_val (v := (.bool (hld n l v))) hF132 rfl rfl rfl rfl (rn_extract (hF132.get rfl) rfl) ?_)
        intro a133 hF134; clear hF132
        refine wpl_op (i := 5) rfl (o_val (v := (.int .i64 (chk n l))) hF134 rfl rfl rfl rfl (rn_extract (hF134.get rfl) rfl) ?_)
        intro a135 hF136; clear hF134
        refine wpl_op (i := 6) rfl (o_val (v := (.bool (hld n l v))) hF136 rfl rfl rfl rfl (rn_assign (hF136.get rfl)) ?_)
        intro a137 hF138; clear hF136
        refine wpl_op (i := 7) rfl (o_val (v := (.int .i64 (chk n l))) hF138 rfl rfl rfl rfl (rn_assign (hF138.get rfl)) ?_)
        intro a139 hF140; clear hF138
        refine wpList_nil ?_
        refine hK118 _ _ ?_
        clear hK118
        have hF141 := ((((((((((hF140.nil.cons (hF140.get (t := 8) (v := (.int .i64 (chk n l))) rfl)).cons (hF140.get (t := 7) (v := (.bool (hld n l v))) rfl)).cons (hF140.get (t := 6) (v := (.int .i64 (chk n l))) rfl)).cons (hF140.get (t := 5) (v := (.bool (hld n l v))) rfl)).cons (hF140.get (t := 24) (v := (.bool (decide ((200 : Int) < ((v.length : Nat) : Int))))) rfl)).cons (hF140.get (t := 10) (v := (.bool false)) rfl)).cons (hF140.get (t := 4) (v := (.bool false)) rfl)).cons (hF140.get (t := 2) (v := (.pointer (some ⟨g2, 0, none⟩))) rfl)).cons (hF140.get (t := 1) (v := (.slice V v.length vc)) rfl)).cons (hF140.get (t := 0) (v := (.agg #[(.int .i64 n), (.slice A l.length c)])) rfl))
        clear hF140
        refine wp_seq_k (fun K142 hK142 => ?_)
        have hx144 : ∃ W, w126.drew = W ∧ Ext w126 W := ⟨_, rfl, (Ext.refl _).drew⟩
        obtain ⟨w143, e145, hx144⟩ := hx144
        have z146 := hx144.size
        refine any_start (fun W => Ext w143 W ∧ Blk W g2 24 [(.int .i64 n), (.slice A l.length c)]) (fun i => false) 16 #[false, false, false, false, false, false, false, false, false, false, false, false, false, false, false, false] rfl rfl rfl ?_
        rw [e145]; clear e145
        have b148 : Blk w143 g2 24 [(.int .i64 n), (.slice A l.length c)] := ((b119.ext hx127).ext hx144)
        have hS147 : Ext w143 w143 ∧ Blk w143 g2 24 [(.int .i64 n), (.slice A l.length c)] := ⟨(Ext.refl w143), b148⟩
        refine any_val (i := 0) (v := (.agg #[(.int .i64 n), (.slice A l.length c)])) hF141 (by decide +kernel) (by decide +kernel) rfl rfl rfl rfl (fun _ _ _ _ h => h) rfl hS147 (fun W hW => (rn_loadBlk (hF141.get rfl) hW.2 Try.underlying24 rfl (by kernel_rfl : (Try.prog.info? 24).map (·.size) = some 2))) ?_
        intro a149 hF150; clear hF141
        refine any_val (i := 2) (v := (.agg #[(.int .i64 n), (.slice A l.length c)])) hF150 (by decide +kernel) (by decide +kernel) rfl rfl rfl rfl (fun _ _ _ _ h => h) rfl hS147 (fun W hW => (rn_loadBlk (hF150.get rfl) hW.2 Try.underlying24 rfl (by kernel_rfl : (Try.prog.info? 24).map (·.size) = some 2))) ?_
        intro a151 hF152; clear hF150
        refine any_one (i := 1) (by decide +kernel) rfl ?_
        have d153 := (((((hc.ext hx5).ext hx15).ext hx103).ext hx127).ext hx144)
        refine o_call hF152 rfl rfl rfl rfl (rn_call (args1 (hF152.get rfl)) rfl (by kernel_rfl)) (bcheck_at (v := (.slice A l.length c)) n l _ d153) ?_
        rintro _ w154 ⟨rfl, hx155⟩
        refine ⟨_, rfl, ?_⟩; intro a156 hF157; clear hF152; have z158 := hx155.size
        have b159 : Blk w154 g2 24 [(.int .i64 n), (.slice A l.length c)] := (b148.ext hx155)
        refine ⟨fun _ _ => ⟨((Ext.refl w143).trans hx155), b159⟩, ?_⟩
        refine any_one (i := 3) (by decide +kernel) rfl ?_
        have d160 := ((((((hc.ext hx5).ext hx15).ext hx103).ext hx127).ext hx144).ext hx155)
        refine o_call hF157 rfl rfl rfl rfl (rn_call (args1 (hF157.get rfl)) rfl (by kernel_rfl)) (rcheck_at (v := (.slice A l.length c)) n l _ d160) ?_
        rintro _ w161 ⟨rfl, hx162⟩
        refine ⟨_, rfl, ?_⟩; intro a163 hF164; clear hF157; have z165 := hx162.size
        have b166 : Blk w161 g2 24 [(.int .i64 n), (.slice A l.length c)] := (b159.ext hx162)
        refine ⟨fun _ _ => ⟨(((Ext.refl w143).trans hx155).trans hx162), b166⟩, ?_⟩
        refine any_pure (i := 4) (v := (.bool (decide (((chk n l) : Int) = ((chk n l) : Int))))) hF164 (by decide +kernel) (by decide +kernel) rfl rfl rfl rfl (fun _ _ _ _ h => h) rfl (fun W => (rn_eql (hF164.get rfl) (hF164.get rfl))) ?_
        intro a167 hF168; clear hF164
        refine any_pure (i := 5) (v := (.bool (decide (((chk n l) : Int) = ((chk n l) : Int))))) hF168 (by decide +kernel) (by decide +kernel) rfl rfl rfl rfl (fun _ _ _ _ h => h) rfl (fun W => (rn_move (hF168.get rfl))) ?_
        intro a169 hF170; clear hF168
        refine any_pure (i := 6) (v := (.bool (hld n l v))) hF170 (by decide +kernel) (by decide +kernel) rfl rfl rfl rfl (fun _ _ _ _ h => h) (wanted_guard rfl rfl rfl hF170 rfl (decide_eq_true rfl : decide (((chk n l) : Int) = ((chk n l) : Int)) = true) rfl) (fun W => (rn_move (hF170.get rfl))) ?_
        intro a172 hF173; clear hF170
        refine any_pure (i := 7) (v := (.bool (hld n l v))) hF173 (by decide +kernel) (by decide +kernel) rfl rfl rfl rfl (fun _ _ _ _ h => h) (wanted_guard rfl rfl rfl hF173 rfl (decide_eq_true rfl : decide (((chk n l) : Int) = ((chk n l) : Int)) = true) rfl) (fun W => (rn_move (hF173.get rfl))) ?_
        intro a174 hF175; clear hF173
        rcases Bool.eq_false_or_eq_true (hld n l v) with hc176 | hc176
        · skip
          refine any_pure (i := 8) (v := (.bool true)) hF175 (by decide +kernel) (by decide +kernel) rfl rfl rfl rfl (fun _ _ _ _ h => h) (wanted_guard rfl rfl rfl hF175 rfl (decide_eq_true rfl : decide (((chk n l) : Int) = ((chk n l) : Int)) = true) rfl) (fun W => (rn_eqB Try.underlying4 (hF175.get rfl) (hF175.get rfl) (show _ = true from hc176) (show _ = true from hc176) rfl)) ?_
          intro a177 hF178; clear hF175
          refine any_pure (i := 9) (v := (.bool true)) hF178 (by decide +kernel) (by decide +kernel) rfl rfl rfl rfl (fun _ _ _ _ h => h) rfl (fun W => (rn_pickT (c_true hF178 rfl (decide_eq_true rfl : decide (((chk n l) : Int) = ((chk n l) : Int)) = true)) (hF178.get rfl))) ?_
          intro a179 hF180; clear hF178
          refine any_pure (i := 10) (v := (.bool true)) hF180 (by decide +kernel) (by decide +kernel) rfl rfl rfl rfl (fun _ _ _ _ h => h) rfl (fun W => (rn_move (hF180.get rfl))) ?_
          intro a181 hF182; clear hF180
          refine any_pure (i := 11) (v := (.int .i64 (chk n l))) hF182 (by decide +kernel) (by decide +kernel) rfl rfl rfl rfl (fun _ _ _ _ h => h) (wanted_guard rfl rfl rfl hF182 rfl rfl rfl) (fun W => (rn_move (hF182.get rfl))) ?_
          intro a183 hF184; clear hF182
          refine any_pure (i := 12) (v := (.int .i64 (chk n l))) hF184 (by decide +kernel) (by decide +kernel) rfl rfl rfl rfl (fun _ _ _ _ h => h) (wanted_guard rfl rfl rfl hF184 rfl rfl rfl) (fun W => (rn_move (hF184.get rfl))) ?_
          intro a185 hF186; clear hF184
          refine any_pure (i := 13) (v := (.bool (decide (((chk n l) : Int) = ((chk n l) : Int))))) hF186 (by decide +kernel) (by decide +kernel) rfl rfl rfl rfl (fun _ _ _ _ h => h) (wanted_guard rfl rfl rfl hF186 rfl rfl rfl) (fun W => (rn_eql (hF186.get rfl) (hF186.get rfl))) ?_
          intro a187 hF188; clear hF186
          refine any_pure (i := 14) (v := (.bool (decide (((chk n l) : Int) = ((chk n l) : Int))))) hF188 (by decide +kernel) (by decide +kernel) rfl rfl rfl rfl (fun _ _ _ _ h => h) rfl (fun W => (rn_pickT (c_true hF188 rfl rfl) (hF188.get rfl))) ?_
          intro a189 hF190; clear hF188
          refine any_pure (i := 15) (v := (.bool (decide (((chk n l) : Int) = ((chk n l) : Int))))) hF190 (by decide +kernel) (by decide +kernel) rfl rfl rfl rfl (fun _ _ _ _ h => h) rfl (fun W => (rn_assign (hF190.get rfl))) ?_
          intro a191 hF192; clear hF190
          refine any_nil (by decide +kernel) ?_
          refine hK142 _ _ ?_
          clear hK142
          have hF193 := ((((((((((hF192.nil.cons (hF192.get (t := 8) (v := (.int .i64 (chk n l))) rfl)).cons (hF192.get (t := 7) (v := (.bool (hld n l v))) rfl)).cons (hF192.get (t := 6) (v := (.int .i64 (chk n l))) rfl)).cons (hF192.get (t := 5) (v := (.bool (hld n l v))) rfl)).cons (hF192.get (t := 24) (v := (.bool (decide ((200 : Int) < ((v.length : Nat) : Int))))) rfl)).cons (hF192.get (t := 10) (v := (.bool false)) rfl)).cons (hF192.get (t := 4) (v := (.bool (decide (((chk n l) : Int) = ((chk n l) : Int))))) rfl)).cons (hF192.get (t := 2) (v := (.pointer (some ⟨g2, 0, none⟩))) rfl)).cons (hF192.get (t := 1) (v := (.slice V v.length vc)) rfl)).cons (hF192.get (t := 0) (v := (.agg #[(.int .i64 n), (.slice A l.length c)])) rfl))
          clear hF192
          refine wp_ret ?_
          refine ret1 hF193 rfl rfl ?_
          exact ⟨by rw [show (decide (((chk n l) : Int) = ((chk n l) : Int))) = true from decide_eq_true rfl], ((((((((Ext.refl w).trans hx5).trans hx15).trans hx103).trans hx127).trans hx144).trans hx155).trans hx162)⟩
        · skip
          refine any_pure (i := 8) (v := (.bool true)) hF175 (by decide +kernel) (by decide +kernel) rfl rfl rfl rfl (fun _ _ _ _ h => h) (wanted_guard rfl rfl rfl hF175 rfl (decide_eq_true rfl : decide (((chk n l) : Int) = ((chk n l) : Int)) = true) rfl) (fun W => (rn_eqB Try.underlying4 (hF175.get rfl) (hF175.get rfl) (show _ = false from hc176) (show _ = false from hc176) rfl)) ?_
          intro a194 hF195; clear hF175
          refine any_pure (i := 9) (v := (.bool true)) hF195 (by decide +kernel) (by decide +kernel) rfl rfl rfl rfl (fun _ _ _ _ h => h) rfl (fun W => (rn_pickT (c_true hF195 rfl (decide_eq_true rfl : decide (((chk n l) : Int) = ((chk n l) : Int)) = true)) (hF195.get rfl))) ?_
          intro a196 hF197; clear hF195
          refine any_pure (i := 10) (v := (.bool true)) hF197 (by decide +kernel) (by decide +kernel) rfl rfl rfl rfl (fun _ _ _ _ h => h) rfl (fun W => (rn_move (hF197.get rfl))) ?_
          intro a198 hF199; clear hF197
          refine any_pure (i := 11) (v := (.int .i64 (chk n l))) hF199 (by decide +kernel) (by decide +kernel) rfl rfl rfl rfl (fun _ _ _ _ h => h) (wanted_guard rfl rfl rfl hF199 rfl rfl rfl) (fun W => (rn_move (hF199.get rfl))) ?_
          intro a200 hF201; clear hF199
          refine any_pure (i := 12) (v := (.int .i64 (chk n l))) hF201 (by decide +kernel) (by decide +kernel) rfl rfl rfl rfl (fun _ _ _ _ h => h) (wanted_guard rfl rfl rfl hF201 rfl rfl rfl) (fun W => (rn_move (hF201.get rfl))) ?_
          intro a202 hF203; clear hF201
          refine any_pure (i := 13) (v := (.bool (decide (((chk n l) : Int) = ((chk n l) : Int))))) hF203 (by decide +kernel) (by decide +kernel) rfl rfl rfl rfl (fun _ _ _ _ h => h) (wanted_guard rfl rfl rfl hF203 rfl rfl rfl) (fun W => (rn_eql (hF203.get rfl) (hF203.get rfl))) ?_
          intro a204 hF205; clear hF203
          refine any_pure (i := 14) (v := (.bool (decide (((chk n l) : Int) = ((chk n l) : Int))))) hF205 (by decide +kernel) (by decide +kernel) rfl rfl rfl rfl (fun _ _ _ _ h => h) rfl (fun W => (rn_pickT (c_true hF205 rfl rfl) (hF205.get rfl))) ?_
          intro a206 hF207; clear hF205
          refine any_pure (i := 15) (v := (.bool (decide (((chk n l) : Int) = ((chk n l) : Int))))) hF207 (by decide +kernel) (by decide +kernel) rfl rfl rfl rfl (fun _ _ _ _ h => h) rfl (fun W => (rn_assign (hF207.get rfl))) ?_
          intro a208 hF209; clear hF207
          refine any_nil (by decide +kernel) ?_
          refine hK142 _ _ ?_
          clear hK142
          have hF210 := ((((((((((hF209.nil.cons (hF209.get (t := 8) (v := (.int .i64 (chk n l))) rfl)).cons (hF209.get (t := 7) (v := (.bool (hld n l v))) rfl)).cons (hF209.get (t := 6) (v := (.int .i64 (chk n l))) rfl)).cons (hF209.get (t := 5) (v := (.bool (hld n l v))) rfl)).cons (hF209.get (t := 24) (v := (.bool (decide ((200 : Int) < ((v.length : Nat) : Int))))) rfl)).cons (hF209.get (t := 10) (v := (.bool false)) rfl)).cons (hF209.get (t := 4) (v := (.bool (decide (((chk n l) : Int) = ((chk n l) : Int))))) rfl)).cons (hF209.get (t := 2) (v := (.pointer (some ⟨g2, 0, none⟩))) rfl)).cons (hF209.get (t := 1) (v := (.slice V v.length vc)) rfl)).cons (hF209.get (t := 0) (v := (.agg #[(.int .i64 n), (.slice A l.length c)])) rfl))
          clear hF209
          refine wp_ret ?_
          refine ret1 hF210 rfl rfl ?_
          exact ⟨by rw [show (decide (((chk n l) : Int) = ((chk n l) : Int))) = true from decide_eq_true rfl], ((((((((Ext.refl w).trans hx5).trans hx15).trans hx103).trans hx127).trans hx144).trans hx155).trans hx162)⟩

end Go.Proofs.Ytjmdodgmoehfkaa
