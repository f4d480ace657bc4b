/- Contracts of Check, of slices.IndexFunc and slices.ContainsFunc. -/
import Derived.Test.YtjmdodgmoehfkaaProg
import Derived.Test.YtjmdodgmoehfkaaBndA
import Derived.KernelRfl
namespace Go.Proofs.Ytjmdodgmoehfkaa
open Go.RowKit

variable {S S' : Nat → Prop}

set_option maxRecDepth 100000 in
set_option maxHeartbeats 1000000 in
theorem bcheck_any (A : Option Addr) (c : Nat) (n : Int) (l : List E3) (w : World) (hf : Fl S w 3 (.slice A l.length c) l.length (edVals l)) :
    Calls Try.prog 13 #[.agg #[.int .i64 n, .slice A l.length c]] w (fun e w' => e = .returned (.int .i64 (chk n l)) ∧ Ext w w') := by
  have hc : Fl (Clip S w) w 3 (.slice A l.length c) l.length (edVals l) := hf.clip
  have hcc := (Fl.cel hc).2.1
  refine calls_enter (l := [(.agg #[(.int .i64 n), (.slice A l.length c)])]) Try.func13 rfl rfl rfl (fun aA hF => ?_)
  refine wp_seq_k (fun K1 hK1 => ?_)
  refine wp_region_lit ?_
  refine wpl_op (i := 0) rfl (o_new (fun g => (.pointer (some ⟨g, 0, none⟩))) [(.int .i64 n), (.slice A l.length c)] 24 hF rfl rfl rfl rfl (rn_box (hF.get rfl) (by kernel_rfl)) ?_)
  intro g2 w3 a8 hF9 z6 z7 b4 hx5; clear hF
  refine wpl_op (i := 1) rfl (o_val (v := (.int .i64 0)) hF9 rfl rfl rfl rfl (rn_assign rfl) ?_)
  intro a10 hF11; clear hF9
  refine wpList_nil ?_
  refine hK1 _ _ ?_
  clear hK1
  refine wp_seq_k (fun K12 hK12 => ?_)
  refine wp_seq_k (fun K13 hK13 => ?_)
  refine wp_region_lit ?_
  refine wpl_op (i := 0) rfl (o_val (v := (.pointer (some ⟨g2, 0, none⟩))) hF11 rfl rfl rfl rfl (rn_field Try.underlying24 rfl (by kernel_rfl) (hF11.get rfl) rfl) ?_)
  intro a14 hF15; clear hF11
  refine wpl_op (i := 1) rfl (o_val (v := (.int .i64 n)) hF15 rfl rfl rfl rfl (rn_load (isAgg_no Try.underlying3 rfl) (hF15.get rfl) (b4.rule.1 0)) ?_)
  intro a16 hF17; clear hF15
  refine wpl_op (i := 2) rfl (o_val (v := (.bool (decide ((n : Int) < (1 : Int))))) hF17 rfl rfl rfl rfl (rn_lss (hF17.get rfl) rfl) ?_)
  intro a18 hF19; clear hF17
  refine wpl_op (i := 3) rfl (o_val (v := (.bool (decide ((n : Int) < (1 : Int))))) hF19 rfl rfl rfl rfl (rn_move (hF19.get rfl)) ?_)
  intro a20 hF21; clear hF19
  by_cases hc22 : (n : Int) < (1 : Int)
  · skip
    refine wpl_op (i := 4) rfl (o_skip hF21 rfl (unwanted_guard rfl rfl rfl hF21 rfl (decide_eq_true hc22) rfl) rfl rfl ?_)
    intro a23 hF24; clear hF21
    refine wpl_op (i := 5) rfl (o_skip hF24 rfl (unwanted_guard rfl rfl rfl hF24 rfl (decide_eq_true hc22) rfl) rfl rfl ?_)
    intro a25 hF26; clear hF24
    refine wpl_op (i := 6) rfl (o_skip hF26 rfl (unwanted_guard rfl rfl rfl hF26 rfl (decide_eq_true hc22) rfl) rfl rfl ?_)
    intro a27 hF28; clear hF26
    refine wpl_op (i := 7) rfl (o_val (v := (.bool true)) hF28 rfl rfl rfl rfl (rn_pickT (c_true hF28 rfl (decide_eq_true hc22)) rfl) ?_)
    intro a29 hF30; clear hF28
    refine wpl_op (i := 8) rfl (o_val (v := (.bool true)) hF30 rfl rfl rfl rfl (rn_move (hF30.get rfl)) ?_)
    intro a31 hF32; clear hF30
    refine wpl_op (i := 9) rfl (o_skip hF32 rfl (unwanted_guard rfl rfl rfl hF32 rfl rfl rfl) rfl rfl ?_)
    intro a33 hF34; clear hF32
    refine wpl_op (i := 10) rfl (o_skip hF34 rfl (unwanted_guard rfl rfl rfl hF34 rfl rfl rfl) rfl rfl ?_)
    intro a35 hF36; clear hF34
    refine wpl_op (i := 11) rfl (o_skip hF36 rfl (unwanted_guard rfl rfl rfl hF36 rfl rfl rfl) rfl rfl ?_)
    intro a37 hF38; clear hF36
    refine wpl_op (i := 12) rfl (o_skip hF38 rfl (unwanted_guard rfl rfl rfl hF38 rfl rfl rfl) rfl rfl ?_)
    intro a39 hF40; clear hF38
    refine wpl_op (i := 13) rfl (o_val (v := (.bool true)) hF40 rfl rfl rfl rfl (rn_pickT (c_true hF40 rfl rfl) rfl) ?_)
    intro a41 hF42; clear hF40
    refine wpList_nil ?_
    refine hK13 _ _ ?_
    clear hK13
    have hF43 := ((((hF42.nil.cons (hF42.get (t := 18) (v := (.bool true)) rfl)).cons (hF42.get (t := 2) (v := (.int .i64 0)) rfl)).cons (hF42.get (t := 1) (v := (.pointer (some ⟨g2, 0, none⟩))) rfl)).cons (hF42.get (t := 0) (v := (.agg #[(.int .i64 n), (.slice A l.length c)])) rfl))
    clear hF42
    refine wp_cond_true (c_true hF43 rfl rfl) ?_
    refine wp_seq_k (fun K44 hK44 => ?_)
    refine wp_region_lit ?_
    refine wpl_op (i := 0) rfl (o_val (v := (.int .i64 150)) hF43 rfl rfl rfl rfl (rn_assign rfl) ?_)
    intro a45 hF46; clear hF43
    refine wpList_nil ?_
    refine hK44 _ _ ?_
    clear hK44
    refine wp_ret ?_
    refine ret_then ?_
    refine ret1 hF46 rfl rfl ?_
    exact ⟨by rw [vOk_no1 (by omega)], ((Ext.refl w).trans hx5)⟩
  · skip
    refine wpl_op (i := 4) rfl (o_val (v := (.pointer (some ⟨g2, 0, none⟩))) hF21 rfl (wanted_guard rfl rfl rfl hF21 rfl (decide_eq_false hc22) rfl) rfl rfl (rn_field Try.underlying24 rfl (by kernel_rfl) (hF21.get rfl) rfl) ?_)
    intro a47 hF48; clear hF21
    refine wpl_op (i := 5) rfl (o_val (v := (.int .i64 n)) hF48 rfl (wanted_guard rfl rfl rfl hF48 rfl (decide_eq_false hc22) rfl) rfl rfl (rn_load (isAgg_no Try.underlying3 rfl) (hF48.get rfl) (b4.rule.1 0)) ?_)
    intro a49 hF50; clear hF48
    refine wpl_op (i := 6) rfl (o_val (v := (.bool (decide ((512 : Int) < (n : Int))))) hF50 rfl (wanted_guard rfl rfl rfl hF50 rfl (decide_eq_false hc22) rfl) rfl rfl (rn_gtr (hF50.get rfl) rfl) ?_)
    intro a51 hF52; clear hF50
    refine wpl_op (i := 7) rfl (o_val (v := (.bool (decide ((512 : Int) < (n : Int))))) hF52 rfl rfl rfl rfl (rn_pickF (c_false hF52 rfl (decide_eq_false hc22)) (hF52.get rfl)) ?_)
    intro a53 hF54; clear hF52
    refine wpl_op (i := 8) rfl (o_val (v := (.bool (decide ((512 : Int) < (n : Int))))) hF54 rfl rfl rfl rfl (rn_move (hF54.get rfl)) ?_)
    intro a55 hF56; clear hF54
    by_cases hc57 : (512 : Int) < (n : Int)
    · skip
      refine wpl_op (i := 9) rfl (o_skip hF56 rfl (unwanted_guard rfl rfl rfl hF56 rfl (decide_eq_true hc57) rfl) rfl rfl ?_)
      intro a58 hF59; clear hF56
      refine wpl_op (i := 10) rfl (o_skip hF59 rfl (unwanted_guard rfl rfl rfl hF59 rfl (decide_eq_true hc57) rfl) rfl rfl ?_)
      intro a60 hF61; clear hF59
      refine wpl_op (i := 11) rfl (o_skip hF61 rfl (unwanted_guard rfl rfl rfl hF61 rfl (decide_eq_true hc57) rfl) rfl rfl ?_)
      intro a62 hF63; clear hF61
      refine wpl_op (i := 12) rfl (o_skip hF63 rfl (unwanted_guard rfl rfl rfl hF63 rfl (decide_eq_true hc57) rfl) rfl rfl ?_)
      intro a64 hF65; clear hF63
      refine wpl_op (i := 13) rfl (o_val (v := (.bool true)) hF65 rfl rfl rfl rfl (rn_pickT (c_true hF65 rfl (decide_eq_true hc57)) rfl) ?_)
      intro a66 hF67; clear hF65
      refine wpList_nil ?_
      refine hK13 _ _ ?_
      clear hK13
      have hF68 := ((((hF67.nil.cons (hF67.get (t := 18) (v := (.bool true)) rfl)).cons (hF67.get (t := 2) (v := (.int .i64 0)) rfl)).cons (hF67.get (t := 1) (v := (.pointer (some ⟨g2, 0, none⟩))) rfl)).cons (hF67.get (t := 0) (v := (.agg #[(.int .i64 n), (.slice A l.length c)])) rfl))
      clear hF67
      refine wp_cond_true (c_true hF68 rfl rfl) ?_
      refine wp_seq_k (fun K69 hK69 => ?_)
      refine wp_region_lit ?_
      refine wpl_op (i := 0) rfl (o_val (v := (.int .i64 150)) hF68 rfl rfl rfl rfl (rn_assign rfl) ?_)
      intro a70 hF71; clear hF68
      refine wpList_nil ?_
      refine hK69 _ _ ?_
      clear hK69
      refine wp_ret ?_
      refine ret_then ?_
      refine ret1 hF71 rfl rfl ?_
      exact ⟨by rw [vOk_no1 (by omega)], ((Ext.refl w).trans hx5)⟩
    · skip
      refine wpl_op (i := 9) rfl (o_val (v := (.pointer (some ⟨g2, 1, none⟩))) hF56 rfl (wanted_guard rfl rfl rfl hF56 rfl (decide_eq_false hc57) rfl) rfl rfl (rn_field Try.underlying24 rfl (by kernel_rfl) (hF56.get rfl) rfl) ?_)
      intro a72 hF73; clear hF56
      refine wpl_op (i := 10) rfl (o_val (v := (.slice A l.length c)) hF73 rfl (wanted_guard rfl rfl rfl hF73 rfl (decide_eq_false hc57) rfl) rfl rfl (rn_load (isAgg_no Try.underlying22 rfl) (hF73.get rfl) (b4.rule.1 1)) ?_)
      intro a74 hF75; clear hF73
      refine wpl_op (i := 11) rfl (o_val (v := (.int .i64 (l.length : Nat))) hF75 rfl (wanted_guard rfl rfl rfl hF75 rfl (decide_eq_false hc57) rfl) rfl rfl (rn_len_slice Try.underlying22 (hF75.get rfl)) ?_)
      intro a76 hF77; clear hF75
      refine wpl_op (i := 12) rfl (o_val (v := (.bool (decide ((8192 : Int) < ((l.length : Nat) : Int))))) hF77 rfl (wanted_guard rfl rfl rfl hF77 rfl (decide_eq_false hc57) rfl) rfl rfl (rn_gtr (hF77.get rfl) rfl) ?_)
      intro a78 hF79; clear hF77
      refine wpl_op (i := 13) rfl (o_val (v := (.bool (decide ((8192 : Int) < ((l.length : Nat) : Int))))) hF79 rfl rfl rfl rfl (rn_pickF (c_false hF79 rfl (decide_eq_false hc57)) (hF79.get rfl)) ?_)
      intro a80 hF81; clear hF79
      refine wpList_nil ?_
      refine hK13 _ _ ?_
      clear hK13
      have hF82 := ((((hF81.nil.cons (hF81.get (t := 18) (v := (.bool (decide ((8192 : Int) < ((l.length : Nat) : Int))))) rfl)).cons (hF81.get (t := 2) (v := (.int .i64 0)) rfl)).cons (hF81.get (t := 1) (v := (.pointer (some ⟨g2, 0, none⟩))) rfl)).cons (hF81.get (t := 0) (v := (.agg #[(.int .i64 n), (.slice A l.length c)])) rfl))
      clear hF81
      by_cases hc83 : (8192 : Int) < ((l.length : Nat) : Int)
      · skip
        refine wp_cond_true (c_true hF82 rfl (decide_eq_true hc83)) ?_
        refine wp_seq_k (fun K84 hK84 => ?_)
        refine wp_region_lit ?_
        refine wpl_op (i := 0) rfl (o_val (v := (.int .i64 150)) hF82 rfl rfl rfl rfl (rn_assign rfl) ?_)
        intro a85 hF86; clear hF82
        refine wpList_nil ?_
        refine hK84 _ _ ?_
        clear hK84
        refine wp_ret ?_
        refine ret_then ?_
        refine ret1 hF86 rfl rfl ?_
        exact ⟨by rw [vOk_no1 (by omega)], ((Ext.refl w).trans hx5)⟩
      · skip
        refine wp_cond_false (c_false hF82 rfl (decide_eq_false hc83)) ?_
        refine wp_skip ?_
        refine hK12 _ _ ?_
        clear hK12
        refine wp_seq_k (fun K87 hK87 => ?_)
        refine wp_seq_k (fun K88 hK88 => ?_)
        refine wp_region_lit ?_
        refine wpl_op (i := 0) rfl (o_val (v := (.pointer (some ⟨g2, 1, none⟩))) hF82 rfl rfl rfl rfl (rn_field Try.underlying24 rfl (by kernel_rfl) (hF82.get rfl) rfl) ?_)
        intro a89 hF90; clear hF82
        refine wpl_op (i := 1) rfl (o_val (v := (.slice A l.length c)) hF90 rfl rfl rfl rfl (rn_load (isAgg_no Try.underlying22 rfl) (hF90.get rfl) (b4.rule.1 1)) ?_)
        intro a91 hF92; clear hF90
        refine wpl_op (i := 2) rfl (o_val (v := (.int .i64 (l.length : Nat))) hF92 rfl rfl rfl rfl (rn_len_slice Try.underlying22 (hF92.get rfl)) ?_)
        intro a93 hF94; clear hF92
        refine wpl_op (i := 3) rfl (o_val (v := (.int .i64 0)) hF94 rfl rfl rfl rfl (rn_move rfl) ?_)
        intro a95 hF96; clear hF94
        refine wpList_nil ?_
        refine hK88 _ _ ?_
        clear hK88
        refine wp_block ?_
        have h0 : 1 ≤ n ∧ n ≤ 512 ∧ l.length ≤ 8192 := by omega
        refine wp_loop (fun a' W => ∃ (k : Nat), Sl 53 [(0, (.agg #[(.int .i64 n), (.slice A l.length c)])), (1, (.pointer (some ⟨g2, 0, none⟩))), (2, (.int .i64 0)), (18, (.bool (decide ((8192 : Int) < ((l.length : Nat) : Int))))), (20, (.slice A l.length c)), (21, (.int .i64 (l.length : Nat))), (22, (.int .i64 (k : Nat)))] a' ∧ k ≤ l.length ∧ (∀ j, j < k → okE n (l.getD j default) = true) ∧ Ext w W ∧ Blk W g2 24 [(.int .i64 n), (.slice A l.length c)] ∧ w3.heap.size ≤ W.heap.size) (fun a' _ => l.length - (intOf (a'.eval (.tmp 22))).toNat) ⟨0, (((((((hF96.nil.cons (q_get hF96 (t := 22) rfl (by first | rfl | (congr 1; omega) | (congr 1; done)))).cons (q_get hF96 (t := 21) rfl rfl)).cons (q_get hF96 (t := 20) rfl rfl)).cons (q_get hF96 (t := 18) rfl rfl)).cons (q_get hF96 (t := 2) rfl rfl)).cons (q_get hF96 (t := 1) rfl rfl)).cons (q_get hF96 (t := 0) rfl rfl)), (by omega), (fun j hj => absurd hj (by omega)), ((Ext.refl w).trans hx5), b4, (Nat.le_refl _)⟩ ?_
        clear hF96
        rintro a97 w98 ⟨k, hF99, hp101, hp102, hx100, b103, hf104⟩
        have hL105 := hF99
        have z106 := hx100.size
        have z107 := b103.lt
        refine wp_seq_k (fun K108 hK108 => ?_)
        refine wp_region_lit ?_
        refine wpl_op (i := 0) rfl (o_val (v := (.bool (decide (((k : Nat) : Int) < ((l.length : Nat) : Int))))) hF99 rfl rfl rfl rfl (rn_lss (hF99.get rfl) (hF99.get rfl)) ?_)
        intro a109 hF110; clear hF99
        refine wpList_nil ?_
        refine hK108 _ _ ?_
        clear hK108
        refine wp_seq_k (fun K111 hK111 => ?_)
        by_cases hc112 : ((k : Nat) : Int) < ((l.length : Nat) : Int)
        · skip
          refine wp_cond_true (c_true hF110 rfl (decide_eq_true hc112)) ?_
          refine wp_skip ?_
          refine hK111 _ _ ?_
          clear hK111
          refine wp_seq_k (fun K113 hK113 => ?_)
          refine wp_block ?_
          refine wp_seq_k (fun K114 hK114 => ?_)
          refine wp_region_lit ?_
          have d118 := (hc.ext hx100)
          obtain ⟨b115, o116, hA117, -⟩ := Fl.at d118 (by omega)
          refine wpl_op (i := 0) rfl (o_val (v := (.pointer (some ⟨b115, o116 + k * 3, none⟩))) hF110 rfl rfl rfl rfl (rn_indexE Try.underlying22 (by kernel_rfl : (Try.prog.info? 41).map (·.size) = some 3) ((hF110.get rfl).trans (by rw [hA117])) (hF110.get rfl) (by omega : (0 : Int) ≤ (k : Nat)) (by omega : ((k : Nat) : Int) < ((l.length : Nat) : Int)) (by omega)) ?_)
          intro a119 hF120; clear hF110
          refine wpl_op (i := 1) rfl (o_val (v := (.agg #[(.int .i64 ((l.getD k default).a)), (.int .i64 ((l.getD k default).b)), (.int .i64 ((l.getD k default).w))])) hF120 rfl rfl rfl rfl (rn_loadN (cs := [(.int .i64 ((l.getD k default).a)), (.int .i64 ((l.getD k default).b)), (.int .i64 ((l.getD k default).w))]) (hF120.get rfl) Try.underlying41 rfl (by kernel_rfl : (Try.prog.info? 41).map (·.size) = some 3) (Fl.recAt edCells_k d118 hA117 (by omega))) ?_)
          intro a121 hF122; clear hF120
          refine wpl_op (i := 2) rfl (o_new (fun g => (.pointer (some ⟨g, 0, none⟩))) [(.int .i64 0), (.int .i64 0), (.int .i64 0)] 41 hF122 rfl rfl rfl rfl (by kernel_rfl) ?_)
          intro g123 w124 a129 hF130 z127 z128 b125 hx126; clear hF122
          refine wpl_op (i := 3) rfl (o_store (cells := [(.int .i64 ((l.getD k default).a)), (.int .i64 ((l.getD k default).b)), (.int .i64 ((l.getD k default).w))]) hF130 rfl rfl rfl rfl (hF130.get rfl) (hF130.get rfl) b125 (by kernel_rfl : (Try.prog.info? 41).map (·.size) = some 3) rfl (by simp [Value.oneCell']) ?_)
          intro w131 b132 hg133; have z134 := hg133.size
          refine wpList_nil ?_
          refine hK114 _ _ ?_
          clear hK114
          refine wp_seq_k (fun K135 hK135 => ?_)
          refine wp_region_lit ?_
          refine wpl_op (i := 0) rfl (o_val (v := (.pointer (some ⟨g123, 0, none⟩))) hF130 rfl rfl rfl rfl (rn_field Try.underlying41 rfl (by kernel_rfl) (hF130.get rfl) rfl) ?_)
          intro a136 hF137; clear hF130
          refine wpl_op (i := 1) rfl (o_val (v := (.int .i64 ((l.getD k default).a))) hF137 rfl rfl rfl rfl (rn_load (isAgg_no Try.underlying3 rfl) (hF137.get rfl) (b132.rule.1 0)) ?_)
          intro a138 hF139; clear hF137
          refine wpl_op (i := 2) rfl (o_val (v := (.pointer (some ⟨g123, 1, none⟩))) hF139 rfl rfl rfl rfl (rn_field Try.underlying41 rfl (by kernel_rfl) (hF139.get rfl) rfl) ?_)
          intro a140 hF141; clear hF139
          refine wpl_op (i := 3) rfl (o_val (v := (.int .i64 ((l.getD k default).b))) hF141 rfl rfl rfl rfl (rn_load (isAgg_no Try.underlying3 rfl) (hF141.get rfl) (b132.rule.1 1)) ?_)
          intro a142 hF143; clear hF141
          refine wpl_op (i := 4) rfl (o_val (v := (.int .i64 (min ((l.getD k default).a : Int) ((l.getD k default).b : Int)))) hF143 rfl rfl rfl rfl (rn_min2 Try.underlying3 (hF143.get rfl) (hF143.get rfl)) ?_)
          intro a144 hF145; clear hF143
          refine wpl_op (i := 5) rfl (o_val (v := (.bool (decide ((min ((l.getD k default).a : Int) ((l.getD k default).b : Int) : Int) < (0 : Int))))) hF145 rfl rfl rfl rfl (rn_lss (hF145.get rfl) rfl) ?_)
          intro a146 hF147; clear hF145
          refine wpl_op (i := 6) rfl (o_val (v := (.bool (decide ((min ((l.getD k default).a : Int) ((l.getD k default).b : Int) : Int) < (0 : Int))))) hF147 rfl rfl rfl rfl (rn_move (hF147.get rfl)) ?_)
          intro a148 hF149; clear hF147
          by_cases hc150 : (min ((l.getD k default).a : Int) ((l.getD k default).b : Int) : Int) < (0 : Int)
          · skip
            refine wpl_op (i := 7) rfl (o_skip hF149 rfl (unwanted_guard rfl rfl rfl hF149 rfl (decide_eq_true hc150) rfl) rfl rfl ?_)
            intro a151 hF152; clear hF149
            refine wpl_op (i := 8) rfl (o_skip hF152 rfl (unwanted_guard rfl rfl rfl hF152 rfl (decide_eq_true hc150) rfl) rfl rfl ?_)
            intro a153 hF154; clear hF152
            refine wpl_op (i := 9) rfl (o_skip hF154 rfl (unwanted_guard rfl rfl rfl hF154 rfl (decide_eq_true hc150) rfl) rfl rfl ?_)
            intro a155 hF156; clear hF154
            refine wpl_op (i := 10) rfl (o_skip hF156 rfl (unwanted_guard rfl rfl rfl hF156 rfl (decide_eq_true hc150) rfl) rfl rfl ?_)
            intro a157 hF158; clear hF156
            refine wpl_op (i := 11) rfl (o_skip hF158 rfl (unwanted_guard rfl rfl rfl hF158 rfl (decide_eq_true hc150) rfl) rfl rfl ?_)
            intro a159 hF160; clear hF158
            refine wpl_op (i := 12) rfl (o_skip hF160 rfl (unwanted_guard rfl rfl rfl hF160 rfl (decide_eq_true hc150) rfl) rfl rfl ?_)
            intro a161 hF162; clear hF160
            refine wpl_op (i := 13) rfl (o_skip hF162 rfl (unwanted_guard rfl rfl rfl hF162 rfl (decide_eq_true hc150) rfl) rfl rfl ?_)
            intro a163 hF164; clear hF162
            refine wpl_op (i := 14) rfl (o_skip hF164 rfl (unwanted_guard rfl rfl rfl hF164 rfl (decide_eq_true hc150) rfl) rfl rfl ?_)
            intro a165 hF166; clear hF164
            refine wpl_op (i := 15) rfl (o_val (v := (.bool true)) hF166 rfl rfl rfl rfl (rn_pickT (c_true hF166 rfl (decide_eq_true hc150)) rfl) ?_)
            intro a167 hF168; clear hF166
            refine wpl_op (i := 16) rfl (o_val (v := (.bool true)) hF168 rfl rfl rfl rfl (rn_move (hF168.get rfl)) ?_)
            intro a169 hF170; clear hF168
            refine wpl_op (i := 17) rfl (o_skip hF170 rfl (unwanted_guard rfl rfl rfl hF170 rfl rfl rfl) rfl rfl ?_)
            intro a171 hF172; clear hF170
            refine wpl_op (i := 18) rfl (o_skip hF172 rfl (unwanted_guard rfl rfl rfl hF172 rfl rfl rfl) rfl rfl ?_)
            intro a173 hF174; clear hF172
            refine wpl_op (i := 19) rfl (o_skip hF174 rfl (unwanted_guard rfl rfl rfl hF174 rfl rfl rfl) rfl rfl ?_)
            intro a175 hF176; clear hF174
            refine wpl_op (i := 20) rfl (o_val (v := (.bool true)) hF176 rfl rfl rfl rfl (rn_pickT (c_true hF176 rfl rfl) rfl) ?_)
            intro a177 hF178; clear hF176
            refine wpl_op (i := 21) rfl (o_val (v := (.bool true)) hF178 rfl rfl rfl rfl (rn_move (hF178.get rfl)) ?_)
            intro a179 hF180; clear hF178
            refine wpl_op (i := 22) rfl (o_skip hF180 rfl (unwanted_guard rfl rfl rfl hF180 rfl rfl rfl) rfl rfl ?_)
            intro a181 hF182; clear hF180
            refine wpl_op (i := 23) rfl (o_skip hF182 rfl (unwanted_guard rfl rfl rfl hF182 rfl rfl rfl) rfl rfl ?_)
            intro a183 hF184; clear hF182
            refine wpl_op (i := 24) rfl (o_skip hF184 rfl (unwanted_guard rfl rfl rfl hF184 rfl rfl rfl) rfl rfl ?_)
            intro a185 hF186; clear hF184
            refine wpl_op (i := 25) rfl (o_val (v := (.bool true)) hF186 rfl rfl rfl rfl (rn_pickT (c_true hF186 rfl rfl) rfl) ?_)
            intro a187 hF188; clear hF186
            refine wpList_nil ?_
            refine hK135 _ _ ?_
            clear hK135
            have hF189 := ((((((((((hF188.nil.cons (hF188.get (t := 51) (v := (.bool true)) rfl)).cons (hF188.get (t := 4) (v := (.pointer (some ⟨g123, 0, none⟩))) rfl)).cons (hF188.get (t := 23) (v := (.bool (decide (((k : Nat) : Int) < ((l.length : Nat) : Int))))) rfl)).cons (hF188.get (t := 22) (v := (.int .i64 (k : Nat))) rfl)).cons (hF188.get (t := 21) (v := (.int .i64 (l.length : Nat))) rfl)).cons (hF188.get (t := 20) (v := (.slice A l.length c)) rfl)).cons (hF188.get (t := 18) (v := (.bool (decide ((8192 : Int) < ((l.length : Nat) : Int))))) rfl)).cons (hF188.get (t := 2) (v := (.int .i64 0)) rfl)).cons (hF188.get (t := 1) (v := (.pointer (some ⟨g2, 0, none⟩))) rfl)).cons (hF188.get (t := 0) (v := (.agg #[(.int .i64 n), (.slice A l.length c)])) rfl))
            clear hF188
            refine wp_cond_true (c_true hF189 rfl rfl) ?_
            refine wp_seq_k (fun K190 hK190 => ?_)
            refine wp_region_lit ?_
            refine wpl_op (i := 0) rfl (o_val (v := (.int .i64 150)) hF189 rfl rfl rfl rfl (rn_assign rfl) ?_)
            intro a191 hF192; clear hF189
            refine wpList_nil ?_
            refine hK190 _ _ ?_
            clear hK190
            refine wp_ret ?_
            refine ret_block ?_
            refine ret_then ?_
            refine ret_then ?_
            refine ret_block ?_
            refine ret_then ?_
            refine ret1 hF192 rfl rfl ?_
            exact ⟨by rw [vOk_no2 (k := k) (by omega) (okE_no (by omega))], ((((Ext.refl w).trans hx100).trans hx126).grownN hg133 (by omega))⟩
          · skip
            refine wpl_op (i := 7) rfl (o_val (v := (.pointer (some ⟨g123, 0, none⟩))) hF149 rfl (wanted_guard rfl rfl rfl hF149 rfl (decide_eq_false hc150) rfl) rfl rfl (rn_field Try.underlying41 rfl (by kernel_rfl) (hF149.get rfl) rfl) ?_)
            intro a193 hF194; clear hF149
            refine wpl_op (i := 8) rfl (o_val (v := (.int .i64 ((l.getD k default).a))) hF194 rfl (wanted_guard rfl rfl rfl hF194 rfl (decide_eq_false hc150) rfl) rfl rfl (rn_load (isAgg_no Try.underlying3 rfl) (hF194.get rfl) (b132.rule.1 0)) ?_)
            intro a195 hF196; clear hF194
            refine wpl_op (i := 9) rfl (o_val (v := (.pointer (some ⟨g123, 1, none⟩))) hF196 rfl (wanted_guard rfl rfl rfl hF196 rfl (decide_eq_false hc150) rfl) rfl rfl (rn_field Try.underlying41 rfl (by kernel_rfl) (hF196.get rfl) rfl) ?_)
            intro a197 hF198; clear hF196
            refine wpl_op (i := 10) rfl (o_val (v := (.int .i64 ((l.getD k default).b))) hF198 rfl (wanted_guard rfl rfl rfl hF198 rfl (decide_eq_false hc150) rfl) rfl rfl (rn_load (isAgg_no Try.underlying3 rfl) (hF198.get rfl) (b132.rule.1 1)) ?_)
            intro a199 hF200; clear hF198
            refine wpl_op (i := 11) rfl (o_val (v := (.int .i64 (max ((l.getD k default).a : Int) ((l.getD k default).b : Int)))) hF200 rfl (wanted_guard rfl rfl rfl hF200 rfl (decide_eq_false hc150) rfl) rfl rfl (rn_max2 Try.underlying3 (hF200.get rfl) (hF200.get rfl)) ?_)
            intro a201 hF202; clear hF200
            refine wpl_op (i := 12) rfl (o_val (v := (.pointer (some ⟨g2, 0, none⟩))) hF202 rfl (wanted_guard rfl rfl rfl hF202 rfl (decide_eq_false hc150) rfl) rfl rfl (rn_field Try.underlying24 rfl (by kernel_rfl) (hF202.get rfl) rfl) ?_)
            intro a203 hF204; clear hF202
            have b205 : Blk w131 g2 24 [(.int .i64 n), (.slice A l.length c)] := ((b103.ext hx126).grownN hg133 (by omega))
            refine wpl_op (i := 13) rfl (o_val (v := (.int .i64 n)) hF204 rfl (wanted_guard rfl rfl rfl hF204 rfl (decide_eq_false hc150) rfl) rfl rfl (rn_load (isAgg_no Try.underlying3 rfl) (hF204.get rfl) (b205.rule.1 0)) ?_)
            intro a206 hF207; clear hF204
            refine wpl_op (i := 14) rfl (o_val (v := (.bool (decide ((n : Int) ≤ (max ((l.getD k default).a : Int) ((l.getD k default).b : Int) : Int))))) hF207 rfl (wanted_guard rfl rfl rfl hF207 rfl (decide_eq_false hc150) rfl) rfl rfl (rn_geq (hF207.get rfl) (hF207.get rfl)) ?_)
            intro a208 hF209; clear hF207
            refine wpl_op (i := 15) rfl (o_val (v := (.bool (decide ((n : Int) ≤ (max ((l.getD k default).a : Int) ((l.getD k default).b : Int) : Int))))) hF209 rfl rfl rfl rfl (rn_pickF (c_false hF209 rfl (decide_eq_false hc150)) (hF209.get rfl)) ?_)
            intro a210 hF211; clear hF209
            refine wpl_op (i := 16) rfl (o_val (v := (.bool (decide ((n : Int) ≤ (max ((l.getD k default).a : Int) ((l.getD k default).b : Int) : Int))))) hF211 rfl rfl rfl rfl (rn_move (hF211.get rfl)) ?_)
            intro a212 hF213; clear hF211
            by_cases hc214 : (n : Int) ≤ (max ((l.getD k default).a : Int) ((l.getD k default).b : Int) : Int)
            · skip
              refine wpl_op (i := 17) rfl (o_skip hF213 rfl (unwanted_guard rfl rfl rfl hF213 rfl (decide_eq_true hc214) rfl) rfl rfl ?_)
              intro a215 hF216; clear hF213
              refine wpl_op (i := 18) rfl (o_skip hF216 rfl (unwanted_guard rfl rfl rfl hF216 rfl (decide_eq_true hc214) rfl) rfl rfl ?_)
              intro a217 hF218; clear hF216
              refine wpl_op (i := 19) rfl (o_skip hF218 rfl (unwanted_guard rfl rfl rfl hF218 rfl (decide_eq_true hc214) rfl) rfl rfl ?_)
              intro a219 hF220; clear hF218
              refine wpl_op (i := 20) rfl (o_val (v := (.bool true)) hF220 rfl rfl rfl rfl (rn_pickT (c_true hF220 rfl (decide_eq_true hc214)) rfl) ?_)
              intro a221 hF222; clear hF220
              refine wpl_op (i := 21) rfl (o_val (v := (.bool true)) hF222 rfl rfl rfl rfl (rn_move (hF222.get rfl)) ?_)
              intro a223 hF224; clear hF222
              refine wpl_op (i := 22) rfl (o_skip hF224 rfl (unwanted_guard rfl rfl rfl hF224 rfl rfl rfl) rfl rfl ?_)
              intro a225 hF226; clear hF224
              refine wpl_op (i := 23) rfl (o_skip hF226 rfl (unwanted_guard rfl rfl rfl hF226 rfl rfl rfl) rfl rfl ?_)
              intro a227 hF228; clear hF226
              refine wpl_op (i := 24) rfl (o_skip hF228 rfl (unwanted_guard rfl rfl rfl hF228 rfl rfl rfl) rfl rfl ?_)
              intro a229 hF230; clear hF228
              refine wpl_op (i := 25) rfl (o_val (v := (.bool true)) hF230 rfl rfl rfl rfl (rn_pickT (c_true hF230 rfl rfl) rfl) ?_)
              intro a231 hF232; clear hF230
              refine wpList_nil ?_
              refine hK135 _ _ ?_
              clear hK135
              have hF233 := ((((((((((hF232.nil.cons (hF232.get (t := 51) (v := (.bool true)) rfl)).cons (hF232.get (t := 4) (v := (.pointer (some ⟨g123, 0, none⟩))) rfl)).cons (hF232.get (t := 23) (v := (.bool (decide (((k : Nat) : Int) < ((l.length : Nat) : Int))))) rfl)).cons (hF232.get (t := 22) (v := (.int .i64 (k : Nat))) rfl)).cons (hF232.get (t := 21) (v := (.int .i64 (l.length : Nat))) rfl)).cons (hF232.get (t := 20) (v := (.slice A l.length c)) rfl)).cons (hF232.get (t := 18) (v := (.bool (decide ((8192 : Int) < ((l.length : Nat) : Int))))) rfl)).cons (hF232.get (t := 2) (v := (.int .i64 0)) rfl)).cons (hF232.get (t := 1) (v := (.pointer (some ⟨g2, 0, none⟩))) rfl)).cons (hF232.get (t := 0) (v := (.agg #[(.int .i64 n), (.slice A l.length c)])) rfl))
              clear hF232
              refine wp_cond_true (c_true hF233 rfl rfl) ?_
              refine wp_seq_k (fun K234 hK234 => ?_)
              refine wp_region_lit ?_
              refine wpl_op (i := 0) rfl (o_val (v := (.int .i64 150)) hF233 rfl rfl rfl rfl (rn_assign rfl) ?_)
              intro a235 hF236; clear hF233
              refine wpList_nil ?_
              refine hK234 _ _ ?_
              clear hK234
              refine wp_ret ?_
              refine ret_block ?_
              refine ret_then ?_
              refine ret_then ?_
              refine ret_block ?_
              refine ret_then ?_
              refine ret1 hF236 rfl rfl ?_
              exact ⟨by rw [vOk_no2 (k := k) (by omega) (okE_no (by omega))], ((((Ext.refl w).trans hx100).trans hx126).grownN hg133 (by omega))⟩
            · skip
              refine wpl_op (i := 17) rfl (o_val (v := (.pointer (some ⟨g123, 2, none⟩))) hF213 rfl (wanted_guard rfl rfl rfl hF213 rfl (decide_eq_false hc214) rfl) rfl rfl (rn_field Try.underlying41 rfl (by kernel_rfl) (hF213.get rfl) rfl) ?_)
              intro a237 hF238; clear hF213
              refine wpl_op (i := 18) rfl (o_val (v := (.int .i64 ((l.getD k default).w))) hF238 rfl (wanted_guard rfl rfl rfl hF238 rfl (decide_eq_false hc214) rfl) rfl rfl (rn_load (isAgg_no Try.underlying3 rfl) (hF238.get rfl) (b132.rule.1 2)) ?_)
              intro a239 hF240; clear hF238
              refine wpl_op (i := 19) rfl (o_val (v := (.bool (decide (((l.getD k default).w : Int) < (-35184372088832 : Int))))) hF240 rfl (wanted_guard rfl rfl rfl hF240 rfl (decide_eq_false hc214) rfl) rfl rfl (rn_lss (hF240.get rfl) rfl) ?_)
              intro a241 hF242; clear hF240
              refine wpl_op (i := 20) rfl (o_val (v := (.bool (decide (((l.getD k default).w : Int) < (-35184372088832 : Int))))) hF242 rfl rfl rfl rfl (rn_pickF (c_false hF242 rfl (decide_eq_false hc214)) (hF242.get rfl)) ?_)
              intro a243 hF244; clear hF242
              refine wpl_op (i := 21) rfl (o_val (v := (.bool (decide (((l.getD k default).w : Int) < (-35184372088832 : Int))))) hF244 rfl rfl rfl rfl (rn_move (hF244.get rfl)) ?_)
              intro a245 hF246; clear hF244
              by_cases hc247 : ((l.getD k default).w : Int) < (-35184372088832 : Int)
              · skip
                refine wpl_op (i := 22) rfl (o_skip hF246 rfl (unwanted_guard rfl rfl rfl hF246 rfl (decide_eq_true hc247) rfl) rfl rfl ?_)
                intro a248 hF249; clear hF246
                refine wpl_op (i := 23) rfl (o_skip hF249 rfl (unwanted_guard rfl rfl rfl hF249 rfl (decide_eq_true hc247) rfl) rfl rfl ?_)
                intro a250 hF251; clear hF249
                refine wpl_op (i := 24) rfl (o_skip hF251 rfl (unwanted_guard rfl rfl rfl hF251 rfl (decide_eq_true hc247) rfl) rfl rfl ?_)
                intro a252 hF253; clear hF251
                refine wpl_op (i := 25) rfl (o_val (v := (.bool true)) hF253 rfl rfl rfl rfl (rn_pickT (c_true hF253 rfl (decide_eq_true hc247)) rfl) ?_)
                intro a254 hF255; clear hF253
                refine wpList_nil ?_
                refine hK135 _ _ ?_
                clear hK135
                have hF256 := ((((((((((hF255.nil.cons (hF255.get (t := 51) (v := (.bool true)) rfl)).cons (hF255.get (t := 4) (v := (.pointer (some ⟨g123, 0, none⟩))) rfl)).cons (hF255.get (t := 23) (v := (.bool (decide (((k : Nat) : Int) < ((l.length : Nat) : Int))))) rfl)).cons (hF255.get (t := 22) (v := (.int .i64 (k : Nat))) rfl)).cons (hF255.get (t := 21) (v := (.int .i64 (l.length : Nat))) rfl)).cons (hF255.get (t := 20) (v := (.slice A l.length c)) rfl)).cons (hF255.get (t := 18) (v := (.bool (decide ((8192 : Int) < ((l.length : Nat) : Int))))) rfl)).cons (hF255.get (t := 2) (v := (.int .i64 0)) rfl)).cons (hF255.get (t := 1) (v := (.pointer (some ⟨g2, 0, none⟩))) rfl)).cons (hF255.get (t := 0) (v := (.agg #[(.int .i64 n), (.slice A l.length c)])) rfl))
                clear hF255
                refine wp_cond_true (c_true hF256 rfl rfl) ?_
                refine wp_seq_k (fun K257 hK257 => ?_)
                refine wp_region_lit ?_
                refine wpl_op (i := 0) rfl (o_val (v := (.int .i64 150)) hF256 rfl rfl rfl rfl (rn_assign rfl) ?_)
                intro a258 hF259; clear hF256
                refine wpList_nil ?_
                refine hK257 _ _ ?_
                clear hK257
                refine wp_ret ?_
                refine ret_block ?_
                refine ret_then ?_
                refine ret_then ?_
                refine ret_block ?_
                refine ret_then ?_
                refine ret1 hF259 rfl rfl ?_
                exact ⟨by rw [vOk_no2 (k := k) (by omega) (okE_no (by omega))], ((((Ext.refl w).trans hx100).trans hx126).grownN hg133 (by omega))⟩
              · skip
                refine wpl_op (i := 22) rfl (o_val (v := (.pointer (some ⟨g123, 2, none⟩))) hF246 rfl (wanted_guard rfl rfl rfl hF246 rfl (decide_eq_false hc247) rfl) rfl rfl (rn_field Try.underlying41 rfl (by kernel_rfl) (hF246.get rfl) rfl) ?_)
                intro a260 hF261; clear hF246
                refine wpl_op (i := 23) rfl (o_val (v := (.int .i64 ((l.getD k default).w))) hF261 rfl (wanted_guard rfl rfl rfl hF261 rfl (decide_eq_false hc247) rfl) rfl rfl (rn_load (isAgg_no Try.underlying3 rfl) (hF261.get rfl) (b132.rule.1 2)) ?_)
                intro a262 hF263; clear hF261
                refine wpl_op (i := 24) rfl (o_val (v := (.bool (decide ((35184372088832 : Int) < ((l.getD k default).w : Int))))) hF263 rfl (wanted_guard rfl rfl rfl hF263 rfl (decide_eq_false hc247) rfl) rfl rfl (rn_gtr (hF263.get rfl) rfl) ?_)
                intro a264 hF265; clear hF263
                refine wpl_op (i := 25) rfl (o_val (v := (.bool (decide ((35184372088832 : Int) < ((l.getD k default).w : Int))))) hF265 rfl rfl rfl rfl (rn_pickF (c_false hF265 rfl (decide_eq_false hc247)) (hF265.get rfl)) ?_)
                intro a266 hF267; clear hF265
                refine wpList_nil ?_
                refine hK135 _ _ ?_
                clear hK135
                have hF268 := ((((((((((hF267.nil.cons (hF267.get (t := 51) (v := (.bool (decide ((35184372088832 : Int) < ((l.getD k default).w : Int))))) rfl)).cons (hF267.get (t := 4) (v := (.pointer (some ⟨g123, 0, none⟩))) rfl)).cons (hF267.get (t := 23) (v := (.bool (decide (((k : Nat) : Int) < ((l.length : Nat) : Int))))) rfl)).cons (hF267.get (t := 22) (v := (.int .i64 (k : Nat))) rfl)).cons (hF267.get (t := 21) (v := (.int .i64 (l.length : Nat))) rfl)).cons (hF267.get (t := 20) (v := (.slice A l.length c)) rfl)).cons (hF267.get (t := 18) (v := (.bool (decide ((8192 : Int) < ((l.length : Nat) : Int))))) rfl)).cons (hF267.get (t := 2) (v := (.int .i64 0)) rfl)).cons (hF267.get (t := 1) (v := (.pointer (some ⟨g2, 0, none⟩))) rfl)).cons (hF267.get (t := 0) (v := (.agg #[(.int .i64 n), (.slice A l.length c)])) rfl))
                clear hF267
                by_cases hc269 : (35184372088832 : Int) < ((l.getD k default).w : Int)
                · skip
                  refine wp_cond_true (c_true hF268 rfl (decide_eq_true hc269)) ?_
                  refine wp_seq_k (fun K270 hK270 => ?_)
                  refine wp_region_lit ?_
                  refine wpl_op (i := 0) rfl (o_val (v := (.int .i64 150)) hF268 rfl rfl rfl rfl (rn_assign rfl) ?_)
                  intro a271 hF272; clear hF268
                  refine wpList_nil ?_
                  refine hK270 _ _ ?_
                  clear hK270
                  refine wp_ret ?_
                  refine ret_block ?_
                  refine ret_then ?_
                  refine ret_then ?_
                  refine ret_block ?_
                  refine ret_then ?_
                  refine ret1 hF272 rfl rfl ?_
                  exact ⟨by rw [vOk_no2 (k := k) (by omega) (okE_no (by omega))], ((((Ext.refl w).trans hx100).trans hx126).grownN hg133 (by omega))⟩
                · skip
                  refine wp_cond_false (c_false hF268 rfl (decide_eq_false hc269)) ?_
                  refine wp_skip ?_
                  refine hK113 _ _ ?_
                  clear hK113
                  refine wp_region_lit ?_
                  refine wpl_op (i := 0) rfl (o_val (v := (.int .i64 (k + 1 : Nat))) hF268 rfl rfl rfl rfl (rn_addN (a := k) (b := 1) (hF268.get rfl) rfl (by omega)) ?_)
                  intro a273 hF274; clear hF268
                  refine wpl_op (i := 1) rfl (o_val (v := (.int .i64 (k + 1 : Nat))) hF274 rfl rfl rfl rfl (rn_move (hF274.get rfl)) ?_)
                  intro a275 hF276; clear hF274
                  refine wpList_nil ?_
                  refine ⟨⟨(k + 1), (((((((hF276.nil.cons (q_get hF276 (t := 22) rfl (by first | rfl | (congr 1; omega) | (congr 1; done)))).cons (q_get hF276 (t := 21) rfl rfl)).cons (q_get hF276 (t := 20) rfl rfl)).cons (q_get hF276 (t := 18) rfl rfl)).cons (q_get hF276 (t := 2) rfl rfl)).cons (q_get hF276 (t := 1) rfl rfl)).cons (q_get hF276 (t := 0) rfl rfl)), (by omega), (upto_step hp102 (okE_iff.2 (by omega))), ((((Ext.refl w).trans hx100).trans hx126).grownN hg133 (by omega)), b205, (by omega)⟩, ?_⟩
                  rw [hF276.get (t := 22) rfl, hL105.get (t := 22) rfl]; simp [intOf] <;> omega
        · skip
          refine wp_cond_false (c_false hF110 rfl (decide_eq_false hc112)) ?_
          refine wp_exit ?_
          refine exit_then ?_
          refine exit_then ?_
          refine exit_here ?_
          refine hK87 _ _ ?_
          clear hK87
          refine wp_seq_k (fun K277 hK277 => ?_)
          refine wp_region_lit ?_
          refine wpl_op (i := 0) rfl (o_val (v := (.int .i64 0)) hF110 rfl rfl rfl rfl (rn_assign rfl) ?_)
          intro a278 hF279; clear hF110
          refine wpList_nil ?_
          refine hK277 _ _ ?_
          clear hK277
          refine wp_ret ?_
          refine ret1 hF279 rfl rfl ?_
          have hk : k = l.length := by omega
          subst hk
          exact ⟨by rw [chk_yes h0 hp102], ((Ext.refl w).trans hx100)⟩

theorem bcheck_at {v : Value} {m : Nat} (n : Int) (l : List E3) (w : World) (hf : Fl S w 3 v m (edVals l)) :
    Calls Try.prog 13 #[.agg #[.int .i64 n, v]] w (fun e w' => e = .returned (.int .i64 (chk n l)) ∧ Ext w w') := by
  have hm := Fl.edlen hf
  subst hm
  obtain ⟨A, c, rfl, _⟩ := hf.form
  exact bcheck_any A c n l w hf

set_option maxRecDepth 100000 in
set_option maxHeartbeats 1000000 in
theorem rcheck_any (A : Option Addr) (c : Nat) (n : Int) (l : List E3) (w : World) (hf : Fl S w 3 (.slice A l.length c) l.length (edVals l)) :
    Calls Try.prog 14 #[.agg #[.int .i64 n, .slice A l.length c]] w (fun e w' => e = .returned (.int .i64 (chk n l)) ∧ Ext w w') := by
  have hc : Fl (Clip S w) w 3 (.slice A l.length c) l.length (edVals l) := hf.clip
  have hcc := (Fl.cel hc).2.1
  refine calls_enter (l := [(.agg #[(.int .i64 n), (.slice A l.length c)])]) Try.func14 rfl rfl rfl (fun aA hF => ?_)
  refine wp_seq_k (fun K1 hK1 => ?_)
  refine wp_region_lit ?_
  refine wpl_op (i := 0) rfl (o_new (fun g => (.pointer (some ⟨g, 0, none⟩))) [(.int .i64 n), (.slice A l.length c)] 24 hF rfl rfl rfl rfl (rn_box (hF.get rfl) (by kernel_rfl)) ?_)
  intro g2 w3 a8 hF9 z6 z7 b4 hx5; clear hF
  refine wpl_op (i := 1) rfl (o_val (v := (.int .i64 0)) hF9 rfl rfl rfl rfl (rn_assign rfl) ?_)
  intro a10 hF11; clear hF9
  refine wpList_nil ?_
  refine hK1 _ _ ?_
  clear hK1
  refine wp_seq_k (fun K12 hK12 => ?_)
  refine wp_seq_k (fun K13 hK13 => ?_)
  refine wp_region_lit ?_
  refine wpl_op (i := 0) rfl (o_val (v := (.pointer (some ⟨g2, 0, none⟩))) hF11 rfl rfl rfl rfl (rn_field Try.underlying24 rfl (by kernel_rfl) (hF11.get rfl) rfl) ?_)
  intro a14 hF15; clear hF11
  refine wpl_op (i := 1) rfl (o_val (v := (.int .i64 n)) hF15 rfl rfl rfl rfl (rn_load (isAgg_no Try.underlying3 rfl) (hF15.get rfl) (b4.rule.1 0)) ?_)
  intro a16 hF17; clear hF15
  refine wpl_op (i := 2) rfl (o_val (v := (.bool (decide ((n : Int) < (1 : Int))))) hF17 rfl rfl rfl rfl (rn_lss (hF17.get rfl) rfl) ?_)
  intro a18 hF19; clear hF17
  refine wpl_op (i := 3) rfl (o_val (v := (.bool (decide ((n : Int) < (1 : Int))))) hF19 rfl rfl rfl rfl (rn_move (hF19.get rfl)) ?_)
  intro a20 hF21; clear hF19
  by_cases hc22 : (n : Int) < (1 : Int)
  · skip
    refine wpl_op (i := 4) rfl (o_skip hF21 rfl (unwanted_guard rfl rfl rfl hF21 rfl (decide_eq_true hc22) rfl) rfl rfl ?_)
    intro a23 hF24; clear hF21
    refine wpl_op (i := 5) rfl (o_skip hF24 rfl (unwanted_guard rfl rfl rfl hF24 rfl (decide_eq_true hc22) rfl) rfl rfl ?_)
    intro a25 hF26; clear hF24
    refine wpl_op (i := 6) rfl (o_skip hF26 rfl (unwanted_guard rfl rfl rfl hF26 rfl (decide_eq_true hc22) rfl) rfl rfl ?_)
    intro a27 hF28; clear hF26
    refine wpl_op (i := 7) rfl (o_val (v := (.bool true)) hF28 rfl rfl rfl rfl (rn_pickT (c_true hF28 rfl (decide_eq_true hc22)) rfl) ?_)
    intro a29 hF30; clear hF28
    refine wpl_op (i := 8) rfl (o_val (v := (.bool true)) hF30 rfl rfl rfl rfl (rn_move (hF30.get rfl)) ?_)
    intro a31 hF32; clear hF30
    refine wpl_op (i := 9) rfl (o_skip hF32 rfl (unwanted_guard rfl rfl rfl hF32 rfl rfl rfl) rfl rfl ?_)
    intro a33 hF34; clear hF32
    refine wpl_op (i := 10) rfl (o_skip hF34 rfl (unwanted_guard rfl rfl rfl hF34 rfl rfl rfl) rfl rfl ?_)
    intro a35 hF36; clear hF34
    refine wpl_op (i := 11) rfl (o_skip hF36 rfl (unwanted_guard rfl rfl rfl hF36 rfl rfl rfl) rfl rfl ?_)
    intro a37 hF38; clear hF36
    refine wpl_op (i := 12) rfl (o_skip hF38 rfl (unwanted_guard rfl rfl rfl hF38 rfl rfl rfl) rfl rfl ?_)
    intro a39 hF40; clear hF38
    refine wpl_op (i := 13) rfl (o_val (v := (.bool true)) hF40 rfl rfl rfl rfl (rn_pickT (c_true hF40 rfl rfl) rfl) ?_)
    intro a41 hF42; clear hF40
    refine wpList_nil ?_
    refine hK13 _ _ ?_
    clear hK13
    have hF43 := ((((hF42.nil.cons (hF42.get (t := 18) (v := (.bool true)) rfl)).cons (hF42.get (t := 2) (v := (.int .i64 0)) rfl)).cons (hF42.get (t := 1) (v := (.pointer (some ⟨g2, 0, none⟩))) rfl)).cons (hF42.get (t := 0) (v := (.agg #[(.int .i64 n), (.slice A l.length c)])) rfl))
    clear hF42
    refine wp_cond_true (c_true hF43 rfl rfl) ?_
    refine wp_seq_k (fun K44 hK44 => ?_)
    refine wp_region_lit ?_
    refine wpl_op (i := 0) rfl (o_val (v := (.int .i64 150)) hF43 rfl rfl rfl rfl (rn_assign rfl) ?_)
    intro a45 hF46; clear hF43
    refine wpList_nil ?_
    refine hK44 _ _ ?_
    clear hK44
    refine wp_ret ?_
    refine ret_then ?_
    refine ret1 hF46 rfl rfl ?_
    exact ⟨by rw [vOk_no1 (by omega)], ((Ext.refl w).trans hx5)⟩
  · skip
    refine wpl_op (i := 4) rfl (o_val (v := (.pointer (some ⟨g2, 0, none⟩))) hF21 rfl (wanted_guard rfl rfl rfl hF21 rfl (decide_eq_false hc22) rfl) rfl rfl (rn_field Try.underlying24 rfl (by kernel_rfl) (hF21.get rfl) rfl) ?_)
    intro a47 hF48; clear hF21
    refine wpl_op (i := 5) rfl (o_val (v := (.int .i64 n)) hF48 rfl (wanted_guard rfl rfl rfl hF48 rfl (decide_eq_false hc22) rfl) rfl rfl (rn_load (isAgg_no Try.underlying3 rfl) (hF48.get rfl) (b4.rule.1 0)) ?_)
    intro a49 hF50; clear hF48
    refine wpl_op (i := 6) rfl (o_val (v := (.bool (decide ((512 : Int) < (n : Int))))) hF50 rfl (wanted_guard rfl rfl rfl hF50 rfl (decide_eq_false hc22) rfl) rfl rfl (rn_gtr (hF50.get rfl) rfl) ?_)
    intro a51 hF52; clear hF50
    refine wpl_op (i := 7) rfl (o_val (v := (.bool (decide ((512 : Int) < (n : Int))))) hF52 rfl rfl rfl rfl (rn_pickF (c_false hF52 rfl (decide_eq_false hc22)) (hF52.get rfl)) ?_)
    intro a53 hF54; clear hF52
    refine wpl_op (i := 8) rfl (o_val (v := (.bool (decide ((512 : Int) < (n : Int))))) hF54 rfl rfl rfl rfl (rn_move (hF54.get rfl)) ?_)
    intro a55 hF56; clear hF54
    by_cases hc57 : (512 : Int) < (n : Int)
    · skip
      refine wpl_op (i := 9) rfl (o_skip hF56 rfl (unwanted_guard rfl rfl rfl hF56 rfl (decide_eq_true hc57) rfl) rfl rfl ?_)
      intro a58 hF59; clear hF56
      refine wpl_op (i := 10) rfl (o_skip hF59 rfl (unwanted_guard rfl rfl rfl hF59 rfl (decide_eq_true hc57) rfl) rfl rfl ?_)
      intro a60 hF61; clear hF59
      refine wpl_op (i := 11) rfl (o_skip hF61 rfl (unwanted_guard rfl rfl rfl hF61 rfl (decide_eq_true hc57) rfl) rfl rfl ?_)
      intro a62 hF63; clear hF61
      refine wpl_op (i := 12) rfl (o_skip hF63 rfl (unwanted_guard rfl rfl rfl hF63 rfl (decide_eq_true hc57) rfl) rfl rfl ?_)
      intro a64 hF65; clear hF63
      refine wpl_op (i := 13) rfl (o_val (v := (.bool true)) hF65 rfl rfl rfl rfl (rn_pickT (c_true hF65 rfl (decide_eq_true hc57)) rfl) ?_)
      intro a66 hF67; clear hF65
      refine wpList_nil ?_
      refine hK13 _ _ ?_
      clear hK13
      have hF68 := ((((hF67.nil.cons (hF67.get (t := 18) (v := (.bool true)) rfl)).cons (hF67.get (t := 2) (v := (.int .i64 0)) rfl)).cons (hF67.get (t := 1) (v := (.pointer (some ⟨g2, 0, none⟩))) rfl)).cons (hF67.get (t := 0) (v := (.agg #[(.int .i64 n), (.slice A l.length c)])) rfl))
      clear hF67
      refine wp_cond_true (c_true hF68 rfl rfl) ?_
      refine wp_seq_k (fun K69 hK69 => ?_)
      refine wp_region_lit ?_
      refine wpl_op (i := 0) rfl (o_val (v := (.int .i64 150)) hF68 rfl rfl rfl rfl (rn_assign rfl) ?_)
      intro a70 hF71; clear hF68
      refine wpList_nil ?_
      refine hK69 _ _ ?_
      clear hK69
      refine wp_ret ?_
      refine ret_then ?_
      refine ret1 hF71 rfl rfl ?_
      exact ⟨by rw [vOk_no1 (by omega)], ((Ext.refl w).trans hx5)⟩
    · skip
      refine wpl_op (i := 9) rfl (o_val (v := (.pointer (some ⟨g2, 1, none⟩))) hF56 rfl (wanted_guard rfl rfl rfl hF56 rfl (decide_eq_false hc57) rfl) rfl rfl (rn_field Try.underlying24 rfl (by kernel_rfl) (hF56.get rfl) rfl) ?_)
      intro a72 hF73; clear hF56
      refine wpl_op (i := 10) rfl (o_val (v := (.slice A l.length c)) hF73 rfl (wanted_guard rfl rfl rfl hF73 rfl (decide_eq_false hc57) rfl) rfl rfl (rn_load (isAgg_no Try.underlying22 rfl) (hF73.get rfl) (b4.rule.1 1)) ?_)
      intro a74 hF75; clear hF73
      refine wpl_op (i := 11) rfl (o_val (v := (.int .i64 (l.length : Nat))) hF75 rfl (wanted_guard rfl rfl rfl hF75 rfl (decide_eq_false hc57) rfl) rfl rfl (rn_len_slice Try.underlying22 (hF75.get rfl)) ?_)
      intro a76 hF77; clear hF75
      refine wpl_op (i := 12) rfl (o_val (v := (.bool (decide ((8192 : Int) < ((l.length : Nat) : Int))))) hF77 rfl (wanted_guard rfl rfl rfl hF77 rfl (decide_eq_false hc57) rfl) rfl rfl (rn_gtr (hF77.get rfl) rfl) ?_)
      intro a78 hF79; clear hF77
      refine wpl_op (i := 13) rfl (o_val (v := (.bool (decide ((8192 : Int) < ((l.length : Nat) : Int))))) hF79 rfl rfl rfl rfl (rn_pickF (c_false hF79 rfl (decide_eq_false hc57)) (hF79.get rfl)) ?_)
      intro a80 hF81; clear hF79
      refine wpList_nil ?_
      refine hK13 _ _ ?_
      clear hK13
      have hF82 := ((((hF81.nil.cons (hF81.get (t := 18) (v := (.bool (decide ((8192 : Int) < ((l.length : Nat) : Int))))) rfl)).cons (hF81.get (t := 2) (v := (.int .i64 0)) rfl)).cons (hF81.get (t := 1) (v := (.pointer (some ⟨g2, 0, none⟩))) rfl)).cons (hF81.get (t := 0) (v := (.agg #[(.int .i64 n), (.slice A l.length c)])) rfl))
      clear hF81
      by_cases hc83 : (8192 : Int) < ((l.length : Nat) : Int)
      · skip
        refine wp_cond_true (c_true hF82 rfl (decide_eq_true hc83)) ?_
        refine wp_seq_k (fun K84 hK84 => ?_)
        refine wp_region_lit ?_
        refine wpl_op (i := 0) rfl (o_val (v := (.int .i64 150)) hF82 rfl rfl rfl rfl (rn_assign rfl) ?_)
        intro a85 hF86; clear hF82
        refine wpList_nil ?_
        refine hK84 _ _ ?_
        clear hK84
        refine wp_ret ?_
        refine ret_then ?_
        refine ret1 hF86 rfl rfl ?_
        exact ⟨by rw [vOk_no1 (by omega)], ((Ext.refl w).trans hx5)⟩
      · skip
        refine wp_cond_false (c_false hF82 rfl (decide_eq_false hc83)) ?_
        refine wp_skip ?_
        refine hK12 _ _ ?_
        clear hK12
        refine wp_seq_k (fun K87 hK87 => ?_)
        refine wp_seq_k (fun K88 hK88 => ?_)
        refine wp_region_lit ?_
        refine wpl_op (i := 0) rfl (o_val (v := (.int .i64 0)) hF82 rfl rfl rfl rfl (rn_assign rfl) ?_)
        intro a89 hF90; clear hF82
        refine wpList_nil ?_
        refine hK88 _ _ ?_
        clear hK88
        refine wp_block ?_
        have h0 : 1 ≤ n ∧ n ≤ 512 ∧ l.length ≤ 8192 := by omega
        refine wp_loop (fun a' W => ∃ (k : Nat), Sl 63 [(0, (.agg #[(.int .i64 n), (.slice A l.length c)])), (1, (.pointer (some ⟨g2, 0, none⟩))), (2, (.int .i64 0)), (18, (.bool (decide ((8192 : Int) < ((l.length : Nat) : Int))))), (3, (.int .i64 (k : Nat)))] a' ∧ k ≤ l.length ∧ (∀ j, j < k → okE n (l.getD j default) = true) ∧ Ext w W ∧ Blk W g2 24 [(.int .i64 n), (.slice A l.length c)] ∧ w3.heap.size ≤ W.heap.size) (fun a' _ => l.length - (intOf (a'.eval (.tmp 3))).toNat) ⟨0, (((((hF90.nil.cons (q_get hF90 (t := 3) rfl (by first | rfl | (congr 1; omega) | (congr 1; done)))).cons (q_get hF90 (t := 18) rfl rfl)).cons (q_get hF90 (t := 2) rfl rfl)).cons (q_get hF90 (t := 1) rfl rfl)).cons (q_get hF90 (t := 0) rfl rfl)), (by omega), (fun j hj => absurd hj (by omega)), ((Ext.refl w).trans hx5), b4, (Nat.le_refl _)⟩ ?_
        clear hF90
        rintro a91 w92 ⟨k, hF93, hp95, hp96, hx94, b97, hf98⟩
        have hL99 := hF93
        have z100 := hx94.size
        have z101 := b97.lt
        refine wp_seq_k (fun K102 hK102 => ?_)
        refine wp_seq_k (fun K103 hK103 => ?_)
        refine wp_region_lit ?_
        refine wpl_op (i := 0) rfl (o_val (v := (.int .i64 (k : Nat))) hF93 rfl rfl rfl rfl (rn_move (hF93.get rfl)) ?_)
        intro a104 hF105; clear hF93
        refine wpl_op (i := 1) rfl (o_val (v := (.pointer (some ⟨g2, 1, none⟩))) hF105 rfl rfl rfl rfl (rn_field Try.underlying24 rfl (by kernel_rfl) (hF105.get rfl) rfl) ?_)
        intro a106 hF107; clear hF105
        refine wpl_op (i := 2) rfl (o_val (v := (.slice A l.length c)) hF107 rfl rfl rfl rfl (rn_load (isAgg_no Try.underlying22 rfl) (hF107.get rfl) (b97.rule.1 1)) ?_)
        intro a108 hF109; clear hF107
        refine wpl_op (i := 3) rfl (o_val (v := (.int .i64 (l.length : Nat))) hF109 rfl rfl rfl rfl (rn_len_slice Try.underlying22 (hF109.get rfl)) ?_)
        intro a110 hF111; clear hF109
        refine wpl_op (i := 4) rfl (o_val (v := (.bool (decide (((k : Nat) : Int) < ((l.length : Nat) : Int))))) hF111 rfl rfl rfl rfl (rn_lss (hF111.get rfl) (hF111.get rfl)) ?_)
        intro a112 hF113; clear hF111
        refine wpList_nil ?_
        refine hK103 _ _ ?_
        clear hK103
        have hF114 := ((((((hF113.nil.cons (hF113.get (t := 23) (v := (.bool (decide (((k : Nat) : Int) < ((l.length : Nat) : Int))))) rfl)).cons (hF113.get (t := 3) (v := (.int .i64 (k : Nat))) rfl)).cons (hF113.get (t := 18) (v := (.bool (decide ((8192 : Int) < ((l.length : Nat) : Int))))) rfl)).cons (hF113.get (t := 2) (v := (.int .i64 0)) rfl)).cons (hF113.get (t := 1) (v := (.pointer (some ⟨g2, 0, none⟩))) rfl)).cons (hF113.get (t := 0) (v := (.agg #[(.int .i64 n), (.slice A l.length c)])) rfl))
        clear hF113
        by_cases hc115 : ((k : Nat) : Int) < ((l.length : Nat) : Int)
        · skip
          refine wp_cond_true (c_true hF114 rfl (decide_eq_true hc115)) ?_
          refine wp_skip ?_
          refine hK102 _ _ ?_
          clear hK102
          refine wp_seq_k (fun K116 hK116 => ?_)
          refine wp_block ?_
          refine wp_seq_k (fun K117 hK117 => ?_)
          refine wp_region_lit ?_
          refine wpl_op (i := 0) rfl (o_val (v := (.pointer (some ⟨g2, 1, none⟩))) hF114 rfl rfl rfl rfl (rn_field Try.underlying24 rfl (by kernel_rfl) (hF114.get rfl) rfl) ?_)
          intro a118 hF119; clear hF114
          refine wpl_op (i := 1) rfl (o_val (v := (.slice A l.length c)) hF119 rfl rfl rfl rfl (rn_load (isAgg_no Try.underlying22 rfl) (hF119.get rfl) (b97.rule.1 1)) ?_)
          intro a120 hF121; clear hF119
          refine wpl_op (i := 2) rfl (o_val (v := (.int .i64 (k : Nat))) hF121 rfl rfl rfl rfl (rn_move (hF121.get rfl)) ?_)
          intro a122 hF123; clear hF121
          have d127 := (hc.ext hx94)
          obtain ⟨b124, o125, hA126, -⟩ := Fl.at d127 (by omega)
          refine wpl_op (i := 3) rfl (o_val (v := (.pointer (some ⟨b124, o125 + k * 3, none⟩))) hF123 rfl rfl rfl rfl (rn_indexE Try.underlying22 (by kernel_rfl : (Try.prog.info? 41).map (·.size) = some 3) ((hF123.get rfl).trans (by rw [hA126])) (hF123.get rfl) (by omega : (0 : Int) ≤ (k : Nat)) (by omega : ((k : Nat) : Int) < ((l.length : Nat) : Int)) (by omega)) ?_)
          intro a128 hF129; clear hF123
          refine wpl_op (i := 4) rfl (o_val (v := (.agg #[(.int .i64 ((l.getD k default).a)), (.int .i64 ((l.getD k default).b)), (.int .i64 ((l.getD k default).w))])) hF129 rfl rfl rfl rfl (rn_loadN (cs := [(.int .i64 ((l.getD k default).a)), (.int .i64 ((l.getD k default).b)), (.int .i64 ((l.getD k default).w))]) (hF129.get rfl) Try.underlying41 rfl (by kernel_rfl : (Try.prog.info? 41).map (·.size) = some 3) (Fl.recAt edCells_k d127 hA126 (by omega))) ?_)
          intro a130 hF131; clear hF129
          refine wpl_op (i := 5) rfl (o_new (fun g => (.pointer (some ⟨g, 0, none⟩))) [(.int .i64 0), (.int .i64 0), (.int .i64 0)] 41 hF131 rfl rfl rfl rfl (by kernel_rfl) ?_)
          intro g132 w133 a138 hF139 z136 z137 b134 hx135; clear hF131
          refine wpl_op (i := 6) rfl (o_store (cells := [(.int .i64 ((l.getD k default).a)), (.int .i64 ((l.getD k default).b)), (.int .i64 ((l.getD k default).w))]) hF139 rfl rfl rfl rfl (hF139.get rfl) (hF139.get rfl) b134 (by kernel_rfl : (Try.prog.info? 41).map (·.size) = some 3) rfl (by simp [Value.oneCell']) ?_)
          intro w140 b141 hg142; have z143 := hg142.size
          refine wpList_nil ?_
          refine hK117 _ _ ?_
          clear hK117
          have hF144 := (((((((hF139.nil.cons (hF139.get (t := 4) (v := (.pointer (some ⟨g132, 0, none⟩))) rfl)).cons (hF139.get (t := 23) (v := (.bool (decide (((k : Nat) : Int) < ((l.length : Nat) : Int))))) rfl)).cons (hF139.get (t := 3) (v := (.int .i64 (k : Nat))) rfl)).cons (hF139.get (t := 18) (v := (.bool (decide ((8192 : Int) < ((l.length : Nat) : Int))))) rfl)).cons (hF139.get (t := 2) (v := (.int .i64 0)) rfl)).cons (hF139.get (t := 1) (v := (.pointer (some ⟨g2, 0, none⟩))) rfl)).cons (hF139.get (t := 0) (v := (.agg #[(.int .i64 n), (.slice A l.length c)])) rfl))
          clear hF139
          refine wp_seq_k (fun K145 hK145 => ?_)
          refine wp_region_lit ?_
          refine wpl_op (i := 0) rfl (o_val (v := (.pointer (some ⟨g132, 0, none⟩))) hF144 rfl rfl rfl rfl (rn_field Try.underlying41 rfl (by kernel_rfl) (hF144.get rfl) rfl) ?_)
          intro a146 hF147; clear hF144
          refine wpl_op (i := 1) rfl (o_val (v := (.int .i64 ((l.getD k default).a))) hF147 rfl rfl rfl rfl (rn_load (isAgg_no Try.underlying3 rfl) (hF147.get rfl) (b141.rule.1 0)) ?_)
          intro a148 hF149; clear hF147
          refine wpl_op (i := 2) rfl (o_val (v := (.bool (decide (((l.getD k default).a : Int) < (0 : Int))))) hF149 rfl rfl rfl rfl (rn_lss (hF149.get rfl) rfl) ?_)
          intro a150 hF151; clear hF149
          refine wpl_op (i := 3) rfl (o_val (v := (.bool (decide (((l.getD k default).a : Int) < (0 : Int))))) hF151 rfl rfl rfl rfl (rn_move (hF151.get rfl)) ?_)
          intro a152 hF153; clear hF151
          by_cases hc154 : ((l.getD k default).a : Int) < (0 : Int)
          · skip
            refine wpl_op (i := 4) rfl (o_skip hF153 rfl (unwanted_guard rfl rfl rfl hF153 rfl (decide_eq_true hc154) rfl) rfl rfl ?_)
            intro a155 hF156; clear hF153
            refine wpl_op (i := 5) rfl (o_skip hF156 rfl (unwanted_guard rfl rfl rfl hF156 rfl (decide_eq_true hc154) rfl) rfl rfl ?_)
            intro a157 hF158; clear hF156
            refine wpl_op (i := 6) rfl (o_skip hF158 rfl (unwanted_guard rfl rfl rfl hF158 rfl (decide_eq_true hc154) rfl) rfl rfl ?_)
            intro a159 hF160; clear hF158
            refine wpl_op (i := 7) rfl (o_skip hF160 rfl (unwanted_guard rfl rfl rfl hF160 rfl (decide_eq_true hc154) rfl) rfl rfl ?_)
            intro a161 hF162; clear hF160
            refine wpl_op (i := 8) rfl (o_skip hF162 rfl (unwanted_guard rfl rfl rfl hF162 rfl (decide_eq_true hc154) rfl) rfl rfl ?_)
            intro a163 hF164; clear hF162
            refine wpl_op (i := 9) rfl (o_val (v := (.bool true)) hF164 rfl rfl rfl rfl (rn_pickT (c_true hF164 rfl (decide_eq_true hc154)) rfl) ?_)
            intro a165 hF166; clear hF164
            refine wpl_op (i := 10) rfl (o_val (v := (.bool true)) hF166 rfl rfl rfl rfl (rn_move (hF166.get rfl)) ?_)
            intro a167 hF168; clear hF166
            refine wpl_op (i := 11) rfl (o_skip hF168 rfl (unwanted_guard rfl rfl rfl hF168 rfl rfl rfl) rfl rfl ?_)
            intro a169 hF170; clear hF168
            refine wpl_op (i := 12) rfl (o_skip hF170 rfl (unwanted_guard rfl rfl rfl hF170 rfl rfl rfl) rfl rfl ?_)
            intro a171 hF172; clear hF170
            refine wpl_op (i := 13) rfl (o_skip hF172 rfl (unwanted_guard rfl rfl rfl hF172 rfl rfl rfl) rfl rfl ?_)
            intro a173 hF174; clear hF172
            refine wpl_op (i := 14) rfl (o_val (v := (.bool true)) hF174 rfl rfl rfl rfl (rn_pickT (c_true hF174 rfl rfl) rfl) ?_)
            intro a175 hF176; clear hF174
            refine wpl_op (i := 15) rfl (o_val (v := (.bool true)) hF176 rfl rfl rfl rfl (rn_move (hF176.get rfl)) ?_)
            intro a177 hF178; clear hF176
            refine wpl_op (i := 16) rfl (o_skip hF178 rfl (unwanted_guard rfl rfl rfl hF178 rfl rfl rfl) rfl rfl ?_)
            intro a179 hF180; clear hF178
            refine wpl_op (i := 17) rfl (o_skip hF180 rfl (unwanted_guard rfl rfl rfl hF180 rfl rfl rfl) rfl rfl ?_)
            intro a181 hF182; clear hF180
            refine wpl_op (i := 18) rfl (o_skip hF182 rfl (unwanted_guard rfl rfl rfl hF182 rfl rfl rfl) rfl rfl ?_)
            intro a183 hF184; clear hF182
            refine wpl_op (i := 19) rfl (o_skip hF184 rfl (unwanted_guard rfl rfl rfl hF184 rfl rfl rfl) rfl rfl ?_)
            intro a185 hF186; clear hF184
            refine wpl_op (i := 20) rfl (o_skip hF186 rfl (unwanted_guard rfl rfl rfl hF186 rfl rfl rfl) rfl rfl ?_)
            intro a187 hF188; clear hF186
            refine wpl_op (i := 21) rfl (o_val (v := (.bool true)) hF188 rfl rfl rfl rfl (rn_pickT (c_true hF188 rfl rfl) rfl) ?_)
            intro a189 hF190; clear hF188
            refine wpl_op (i := 22) rfl (o_val (v := (.bool true)) hF190 rfl rfl rfl rfl (rn_move (hF190.get rfl)) ?_)
            intro a191 hF192; clear hF190
            refine wpl_op (i := 23) rfl (o_skip hF192 rfl (unwanted_guard rfl rfl rfl hF192 rfl rfl rfl) rfl rfl ?_)
            intro a193 hF194; clear hF192
            refine wpl_op (i := 24) rfl (o_skip hF194 rfl (unwanted_guard rfl rfl rfl hF194 rfl rfl rfl) rfl rfl ?_)
            intro a195 hF196; clear hF194
            refine wpl_op (i := 25) rfl (o_skip hF196 rfl (unwanted_guard rfl rfl rfl hF196 rfl rfl rfl) rfl rfl ?_)
            intro a197 hF198; clear hF196
            refine wpl_op (i := 26) rfl (o_val (v := (.bool true)) hF198 rfl rfl rfl rfl (rn_pickT (c_true hF198 rfl rfl) rfl) ?_)
            intro a199 hF200; clear hF198
            refine wpl_op (i := 27) rfl (o_val (v := (.bool true)) hF200 rfl rfl rfl rfl (rn_move (hF200.get rfl)) ?_)
            intro a201 hF202; clear hF200
            refine wpl_op (i := 28) rfl (o_skip hF202 rfl (unwanted_guard rfl rfl rfl hF202 rfl rfl rfl) rfl rfl ?_)
            intro a203 hF204; clear hF202
            refine wpl_op (i := 29) rfl (o_skip hF204 rfl (unwanted_guard rfl rfl rfl hF204 rfl rfl rfl) rfl rfl ?_)
            intro a205 hF206; clear hF204
            refine wpl_op (i := 30) rfl (o_skip hF206 rfl (unwanted_guard rfl rfl rfl hF206 rfl rfl rfl) rfl rfl ?_)
            intro a207 hF208; clear hF206
            refine wpl_op (i := 31) rfl (o_val (v := (.bool true)) hF208 rfl rfl rfl rfl (rn_pickT (c_true hF208 rfl rfl) rfl) ?_)
            intro a209 hF210; clear hF208
            refine wpList_nil ?_
            refine hK145 _ _ ?_
            clear hK145
            have hF211 := ((((((((hF210.nil.cons (hF210.get (t := 62) (v := (.bool true)) rfl)).cons (hF210.get (t := 4) (v := (.pointer (some ⟨g132, 0, none⟩))) rfl)).cons (hF210.get (t := 23) (v := (.bool (decide (((k : Nat) : Int) < ((l.length : Nat) : Int))))) rfl)).cons (hF210.get (t := 3) (v := (.int .i64 (k : Nat))) rfl)).cons (hF210.get (t := 18) (v := (.bool (decide ((8192 : Int) < ((l.length : Nat) : Int))))) rfl)).cons (hF210.get (t := 2) (v := (.int .i64 0)) rfl)).cons (hF210.get (t := 1) (v := (.pointer (some ⟨g2, 0, none⟩))) rfl)).cons (hF210.get (t := 0) (v := (.agg #[(.int .i64 n), (.slice A l.length c)])) rfl))
            clear hF210
            refine wp_cond_true (c_true hF211 rfl rfl) ?_
            refine wp_seq_k (fun K212 hK212 => ?_)
            refine wp_region_lit ?_
            refine wpl_op (i := 0) rfl (o_val (v := (.int .i64 150)) hF211 rfl rfl rfl rfl (rn_assign rfl) ?_)
            intro a213 hF214; clear hF211
            refine wpList_nil ?_
            refine hK212 _ _ ?_
            clear hK212
            refine wp_ret ?_
            refine ret_block ?_
            refine ret_then ?_
            refine ret_then ?_
            refine ret_block ?_
            refine ret_then ?_
            refine ret1 hF214 rfl rfl ?_
            exact ⟨by rw [vOk_no2 (k := k) (by omega) (okE_no (by omega))], ((((Ext.refl w).trans hx94).trans hx135).grownN hg142 (by omega))⟩
          · skip
            refine wpl_op (i := 4) rfl (o_val (v := (.pointer (some ⟨g132, 0, none⟩))) hF153 rfl (wanted_guard rfl rfl rfl hF153 rfl (decide_eq_false hc154) rfl) rfl rfl (rn_field Try.underlying41 rfl (by kernel_rfl) (hF153.get rfl) rfl) ?_)
            intro a215 hF216; clear hF153
            refine wpl_op (i := 5) rfl (o_val (v := (.int .i64 ((l.getD k default).a))) hF216 rfl (wanted_guard rfl rfl rfl hF216 rfl (decide_eq_false hc154) rfl) rfl rfl (rn_load (isAgg_no Try.underlying3 rfl) (hF216.get rfl) (b141.rule.1 0)) ?_)
            intro a217 hF218; clear hF216
            refine wpl_op (i := 6) rfl (o_val (v := (.pointer (some ⟨g2, 0, none⟩))) hF218 rfl (wanted_guard rfl rfl rfl hF218 rfl (decide_eq_false hc154) rfl) rfl rfl (rn_field Try.underlying24 rfl (by kernel_rfl) (hF218.get rfl) rfl) ?_)
            intro a219 hF220; clear hF218
            have b221 : Blk w140 g2 24 [(.int .i64 n), (.slice A l.length c)] := ((b97.ext hx135).grownN hg142 (by omega))
            refine wpl_op (i := 7) rfl (o_val (v := (.int .i64 n)) hF220 rfl (wanted_guard rfl rfl rfl hF220 rfl (decide_eq_false hc154) rfl) rfl rfl (rn_load (isAgg_no Try.underlying3 rfl) (hF220.get rfl) (b221.rule.1 0)) ?_)
            intro a222 hF223; clear hF220
            refine wpl_op (i := 8) rfl (o_val (v := (.bool (decide ((n : Int) ≤ ((l.getD k default).a : Int))))) hF223 rfl (wanted_guard rfl rfl rfl hF223 rfl (decide_eq_false hc154) rfl) rfl rfl (rn_geq (hF223.get rfl) (hF223.get rfl)) ?_)
            intro a224 hF225; clear hF223
            refine wpl_op (i := 9) rfl (o_val (v := (.bool (decide ((n : Int) ≤ ((l.getD k default).a : Int))))) hF225 rfl rfl rfl rfl (rn_pickF (c_false hF225 rfl (decide_eq_false hc154)) (hF225.get rfl)) ?_)
            intro a226 hF227; clear hF225
            refine wpl_op (i := 10) rfl (o_val (v := (.bool (decide ((n : Int) ≤ ((l.getD k default).a : Int))))) hF227 rfl rfl rfl rfl (rn_move (hF227.get rfl)) ?_)
            intro a228 hF229; clear hF227
            by_cases hc230 : (n : Int) ≤ ((l.getD k default).a : Int)
            · skip
              refine wpl_op (i := 11) rfl (o_skip hF229 rfl (unwanted_guard rfl rfl rfl hF229 rfl (decide_eq_true hc230) rfl) rfl rfl ?_)
              intro a231 hF232; clear hF229
              refine wpl_op (i := 12) rfl (o_skip hF232 rfl (unwanted_guard rfl rfl rfl hF232 rfl (decide_eq_true hc230) rfl) rfl rfl ?_)
              intro a233 hF234; clear hF232
              refine wpl_op (i := 13) rfl (o_skip hF234 rfl (unwanted_guard rfl rfl rfl hF234 rfl (decide_eq_true hc230) rfl) rfl rfl ?_)
              intro a235 hF236; clear hF234
              refine wpl_op (i := 14) rfl (o_val (v := (.bool true)) hF236 rfl rfl rfl rfl (rn_pickT (c_true hF236 rfl (decide_eq_true hc230)) rfl) ?_)
              intro a237 hF238; clear hF236
              refine wpl_op (i := 15) rfl (o_val (v := (.bool true)) hF238 rfl rfl rfl rfl (rn_move (hF238.get rfl)) ?_)
              intro a239 hF240; clear hF238
              refine wpl_op (i := 16) rfl (o_skip hF240 rfl (unwanted_guard rfl rfl rfl hF240 rfl rfl rfl) rfl rfl ?_)
              intro a241 hF242; clear hF240
              refine wpl_op (i := 17) rfl (o_skip hF242 rfl (unwanted_guard rfl rfl rfl hF242 rfl rfl rfl) rfl rfl ?_)
              intro a243 hF244; clear hF242
              refine wpl_op (i := 18) rfl (o_skip hF244 rfl (unwanted_guard rfl rfl rfl hF244 rfl rfl rfl) rfl rfl ?_)
              intro a245 hF246; clear hF244
              refine wpl_op (i := 19) rfl (o_skip hF246 rfl (unwanted_guard rfl rfl rfl hF246 rfl rfl rfl) rfl rfl ?_)
              intro a247 hF248; clear hF246
              refine wpl_op (i := 20) rfl (o_skip hF248 rfl (unwanted_guard rfl rfl rfl hF248 rfl rfl rfl) rfl rfl ?_)
              intro a249 hF250; clear hF248
              refine wpl_op (i := 21) rfl (o_val (v := (.bool true)) hF250 rfl rfl rfl rfl (rn_pickT (c_true hF250 rfl rfl) rfl) ?_)
              intro a251 hF252; clear hF250
              refine wpl_op (i := 22) rfl (o_val (v := (.bool true)) hF252 rfl rfl rfl rfl (rn_move (hF252.get rfl)) ?_)
              intro a253 hF254; clear hF252
              refine wpl_op (i := 23) rfl (o_skip hF254 rfl (unwanted_guard rfl rfl rfl hF254 rfl rfl rfl) rfl rfl ?_)
              intro a255 hF256; clear hF254
              refine wpl_op (i := 24) rfl (o_skip hF256 rfl (unwanted_guard rfl rfl rfl hF256 rfl rfl rfl) rfl rfl ?_)
              intro a257 hF258; clear hF256
              refine wpl_op (i := 25) rfl (o_skip hF258 rfl (unwanted_guard rfl rfl rfl hF258 rfl rfl rfl) rfl rfl ?_)
              intro a259 hF260; clear hF258
              refine wpl_op (i := 26) rfl (o_val (v := (.bool true)) hF260 rfl rfl rfl rfl (rn_pickT (c_true hF260 rfl rfl) rfl) ?_)
              intro a261 hF262; clear hF260
              refine wpl_op (i := 27) rfl (o_val (v := (.bool true)) hF262 rfl rfl rfl rfl (rn_move (hF262.get rfl)) ?_)
              intro a263 hF264; clear hF262
              refine wpl_op (i := 28) rfl (o_skip hF264 rfl (unwanted_guard rfl rfl rfl hF264 rfl rfl rfl) rfl rfl ?_)
              intro a265 hF266; clear hF264
              refine wpl_op (i := 29) rfl (o_skip hF266 rfl (unwanted_guard rfl rfl rfl hF266 rfl rfl rfl) rfl rfl ?_)
              intro a267 hF268; clear hF266
              refine wpl_op (i := 30) rfl (o_skip hF268 rfl (unwanted_guard rfl rfl rfl hF268 rfl rfl rfl) rfl rfl ?_)
              intro a269 hF270; clear hF268
              refine wpl_op (i := 31) rfl (o_val (v := (.bool true)) hF270 rfl rfl rfl rfl (rn_pickT (c_true hF270 rfl rfl) rfl) ?_)
              intro a271 hF272; clear hF270
              refine wpList_nil ?_
              refine hK145 _ _ ?_
              clear hK145
              have hF273 := ((((((((hF272.nil.cons (hF272.get (t := 62) (v := (.bool true)) rfl)).cons (hF272.get (t := 4) (v := (.pointer (some ⟨g132, 0, none⟩))) rfl)).cons (hF272.get (t := 23) (v := (.bool (decide (((k : Nat) : Int) < ((l.length : Nat) : Int))))) rfl)).cons (hF272.get (t := 3) (v := (.int .i64 (k : Nat))) rfl)).cons (hF272.get (t := 18) (v := (.bool (decide ((8192 : Int) < ((l.length : Nat) : Int))))) rfl)).cons (hF272.get (t := 2) (v := (.int .i64 0)) rfl)).cons (hF272.get (t := 1) (v := (.pointer (some ⟨g2, 0, none⟩))) rfl)).cons (hF272.get (t := 0) (v := (.agg #[(.int .i64 n), (.slice A l.length c)])) rfl))
              clear hF272
              refine wp_cond_true (c_true hF273 rfl rfl) ?_
              refine wp_seq_k (fun K274 hK274 => ?_)
              refine wp_region_lit ?_
              refine wpl_op (i := 0) rfl (o_val (v := (.int .i64 150)) hF273 rfl rfl rfl rfl (rn_assign rfl) ?_)
              intro a275 hF276; clear hF273
              refine wpList_nil ?_
              refine hK274 _ _ ?_
              clear hK274
              refine wp_ret ?_
              refine ret_block ?_
              refine ret_then ?_
              refine ret_then ?_
              refine ret_block ?_
              refine ret_then ?_
              refine ret1 hF276 rfl rfl ?_
              exact ⟨by rw [vOk_no2 (k := k) (by omega) (okE_no (by omega))], ((((Ext.refl w).trans hx94).trans hx135).grownN hg142 (by omega))⟩
            · skip
              refine wpl_op (i := 11) rfl (o_val (v := (.pointer (some ⟨g132, 1, none⟩))) hF229 rfl (wanted_guard rfl rfl rfl hF229 rfl (decide_eq_false hc230) rfl) rfl rfl (rn_field Try.underlying41 rfl (by kernel_rfl) (hF229.get rfl) rfl) ?_)
              intro a277 hF278; clear hF229
              refine wpl_op (i := 12) rfl (o_val (v := (.int .i64 ((l.getD k default).b))) hF278 rfl (wanted_guard rfl rfl rfl hF278 rfl (decide_eq_false hc230) rfl) rfl rfl (rn_load (isAgg_no Try.underlying3 rfl) (hF278.get rfl) (b141.rule.1 1)) ?_)
              intro a279 hF280; clear hF278
              refine wpl_op (i := 13) rfl (o_val (v := (.bool (decide (((l.getD k default).b : Int) < (0 : Int))))) hF280 rfl (wanted_guard rfl rfl rfl hF280 rfl (decide_eq_false hc230) rfl) rfl rfl (rn_lss (hF280.get rfl) rfl) ?_)
              intro a281 hF282; clear hF280
              refine wpl_op (i := 14) rfl (o_val (v := (.bool (decide (((l.getD k default).b : Int) < (0 : Int))))) hF282 rfl rfl rfl rfl (rn_pickF (c_false hF282 rfl (decide_eq_false hc230)) (hF282.get rfl)) ?_)
              intro a283 hF284; clear hF282
              refine wpl_op (i := 15) rfl (o_val (v := (.bool (decide (((l.getD k default).b : Int) < (0 : Int))))) hF284 rfl rfl rfl rfl (rn_move (hF284.get rfl)) ?_)
              intro a285 hF286; clear hF284
              by_cases hc287 : ((l.getD k default).b : Int) < (0 : Int)
              · skip
                refine wpl_op (i := 16) rfl (o_skip hF286 rfl (unwanted_guard rfl rfl rfl hF286 rfl (decide_eq_true hc287) rfl) rfl rfl ?_)
                intro a288 hF289; clear hF286
                refine wpl_op (i := 17) rfl (o_skip hF289 rfl (unwanted_guard rfl rfl rfl hF289 rfl (decide_eq_true hc287) rfl) rfl rfl ?_)
                intro a290 hF291; clear hF289
                refine wpl_op (i := 18) rfl (o_skip hF291 rfl (unwanted_guard rfl rfl rfl hF291 rfl (decide_eq_true hc287) rfl) rfl rfl ?_)
                intro a292 hF293; clear hF291
                refine wpl_op (i := 19) rfl (o_skip hF293 rfl (unwanted_guard rfl rfl rfl hF293 rfl (decide_eq_true hc287) rfl) rfl rfl ?_)
                intro a294 hF295; clear hF293
                refine wpl_op (i := 20) rfl (o_skip hF295 rfl (unwanted_guard rfl rfl rfl hF295 rfl (decide_eq_true hc287) rfl) rfl rfl ?_)
                intro a296 hF297; clear hF295
                refine wpl_op (i := 21) rfl (o_val (v := (.bool true)) hF297 rfl rfl rfl rfl (rn_pickT (c_true hF297 rfl (decide_eq_true hc287)) rfl) ?_)
                intro a298 hF299; clear hF297
                refine wpl_op (i := 22) rfl (o_val (v := (.bool true)) hF299 rfl rfl rfl rfl (rn_move (hF299.get rfl)) ?_)
                intro a300 hF301; clear hF299
                refine wpl_op (i := 23) rfl (o_skip hF301 rfl (unwanted_guard rfl rfl rfl hF301 rfl rfl rfl) rfl rfl ?_)
                intro a302 hF303; clear hF301
                refine wpl_op (i := 24) rfl (o_skip hF303 rfl (unwanted_guard rfl rfl rfl hF303 rfl rfl rfl) rfl rfl ?_)
                intro a304 hF305; clear hF303
                refine wpl_op (i := 25) rfl (o_skip hF305 rfl (unwanted_guard rfl rfl rfl hF305 rfl rfl rfl) rfl rfl ?_)
                intro a306 hF307; clear hF305
                refine wpl_op (i := 26) rfl (o_val (v := (.bool true)) hF307 rfl rfl rfl rfl (rn_pickT (c_true hF307 rfl rfl) rfl) ?_)
                intro a308 hF309; clear hF307
                refine wpl_op (i := 27) rfl (o_val (v := (.bool true)) hF309 rfl rfl rfl rfl (rn_move (hF309.get rfl)) ?_)
                intro a310 hF311; clear hF309
                refine wpl_op (i := 28) rfl (o_skip hF311 rfl (unwanted_guard rfl rfl rfl hF311 rfl rfl rfl) rfl rfl ?_)
                intro a312 hF313; clear hF311
                refine wpl_op (i := 29) rfl (o_skip hF313 rfl (unwanted_guard rfl rfl rfl hF313 rfl rfl rfl) rfl rfl ?_)
                intro a314 hF315; clear hF313
                refine wpl_op (i := 30) rfl (o_skip hF315 rfl (unwanted_guard rfl rfl rfl hF315 rfl rfl rfl) rfl rfl ?_)
                intro a316 hF317; clear hF315
                refine wpl_op (i := 31) rfl (o_val (v := (.bool true)) hF317 rfl rfl rfl rfl (rn_pickT (c_true hF317 rfl rfl) rfl) ?_)
                intro a318 hF319; clear hF317
                refine wpList_nil ?_
                refine hK145 _ _ ?_
                clear hK145
                have hF320 := ((((((((hF319.nil.cons (hF319.get (t := 62) (v := (.bool true)) rfl)).cons (hF319.get (t := 4) (v := (.pointer (some ⟨g132, 0, none⟩))) rfl)).cons (hF319.get (t := 23) (v := (.bool (decide (((k : Nat) : Int) < ((l.length : Nat) : Int))))) rfl)).cons (hF319.get (t := 3) (v := (.int .i64 (k : Nat))) rfl)).cons (hF319.get (t := 18) (v := (.bool (decide ((8192 : Int) < ((l.length : Nat) : Int))))) rfl)).cons (hF319.get (t := 2) (v := (.int .i64 0)) rfl)).cons (hF319.get (t := 1) (v := (.pointer (some ⟨g2, 0, none⟩))) rfl)).cons (hF319.get (t := 0) (v := (.agg #[(.int .i64 n), (.slice A l.length c)])) rfl))
                clear hF319
                refine wp_cond_true (c_true hF320 rfl rfl) ?_
                refine wp_seq_k (fun K321 hK321 => ?_)
                refine wp_region_lit ?_
                refine wpl_op (i := 0) rfl (o_val (v := (.int .i64 150)) hF320 rfl rfl rfl rfl (rn_assign rfl) ?_)
                intro a322 hF323; clear hF320
                refine wpList_nil ?_
                refine hK321 _ _ ?_
                clear hK321
                refine wp_ret ?_
                refine ret_block ?_
                refine ret_then ?_
                refine ret_then ?_
                refine ret_block ?_
                refine ret_then ?_
                refine ret1 hF323 rfl rfl ?_
                exact ⟨by rw [vOk_no2 (k := k) (by omega) (okE_no (by omega))], ((((Ext.refl w).trans hx94).trans hx135).grownN hg142 (by omega))⟩
              · skip
                refine wpl_op (i := 16) rfl (o_val (v := (.pointer (some ⟨g132, 1, none⟩))) hF286 rfl (wanted_guard rfl rfl rfl hF286 rfl (decide_eq_false hc287) rfl) rfl rfl (rn_field Try.underlying41 rfl (by kernel_rfl) (hF286.get rfl) rfl) ?_)
                intro a324 hF325; clear hF286
                refine wpl_op (i := 17) rfl (o_val (v := (.int .i64 ((l.getD k default).b))) hF325 rfl (wanted_guard rfl rfl rfl hF325 rfl (decide_eq_false hc287) rfl) rfl rfl (rn_load (isAgg_no Try.underlying3 rfl) (hF325.get rfl) (b141.rule.1 1)) ?_)
                intro a326 hF327; clear hF325
                refine wpl_op (i := 18) rfl (o_val (v := (.pointer (some ⟨g2, 0, none⟩))) hF327 rfl (wanted_guard rfl rfl rfl hF327 rfl (decide_eq_false hc287) rfl) rfl rfl (rn_field Try.underlying24 rfl (by kernel_rfl) (hF327.get rfl) rfl) ?_)
                intro a328 hF329; clear hF327
                refine wpl_op (i := 19) rfl (o_val (v := (.int .i64 n)) hF329 rfl (wanted_guard rfl rfl rfl hF329 rfl (decide_eq_false hc287) rfl) rfl rfl (rn_load (isAgg_no Try.underlying3 rfl) (hF329.get rfl) (b221.rule.1 0)) ?_)
                intro a330 hF331; clear hF329
                refine wpl_op (i := 20) rfl (o_val (v := (.bool (decide ((n : Int) ≤ ((l.getD k default).b : Int))))) hF331 rfl (wanted_guard rfl rfl rfl hF331 rfl (decide_eq_false hc287) rfl) rfl rfl (rn_geq (hF331.get rfl) (hF331.get rfl)) ?_)
                intro a332 hF333; clear hF331
                refine wpl_op (i := 21) rfl (o_val (v := (.bool (decide ((n : Int) ≤ ((l.getD k default).b : Int))))) hF333 rfl rfl rfl rfl (rn_pickF (c_false hF333 rfl (decide_eq_false hc287)) (hF333.get rfl)) ?_)
                intro a334 hF335; clear hF333
                refine wpl_op (i := 22) rfl (o_val (v := (.bool (decide ((n : Int) ≤ ((l.getD k default).b : Int))))) hF335 rfl rfl rfl rfl (rn_move (hF335.get rfl)) ?_)
                intro a336 hF337; clear hF335
                by_cases hc338 : (n : Int) ≤ ((l.getD k default).b : Int)
                · skip
                  refine wpl_op (i := 23) rfl (o_skip hF337 rfl (unwanted_guard rfl rfl rfl hF337 rfl (decide_eq_true hc338) rfl) rfl rfl ?_)
                  intro a339 hF340; clear hF337
                  refine wpl_op (i := 24) rfl (o_skip hF340 rfl (unwanted_guard rfl rfl rfl hF340 rfl (decide_eq_true hc338) rfl) rfl rfl ?_)
                  intro a341 hF342; clear hF340
                  refine wpl_op (i := 25) rfl (o_skip hF342 rfl (unwanted_guard rfl rfl rfl hF342 rfl (decide_eq_true hc338) rfl) rfl rfl ?_)
                  intro a343 hF344; clear hF342
                  refine wpl_op (i := 26) rfl (o_val (v := (.bool true)) hF344 rfl rfl rfl rfl (rn_pickT (c_true hF344 rfl (decide_eq_true hc338)) rfl) ?_)
                  intro a345 hF346; clear hF344
                  refine wpl_op (i := 27) rfl (o_val (v := (.bool true)) hF346 rfl rfl rfl rfl (rn_move (hF346.get rfl)) ?_)
                  intro a347 hF348; clear hF346
                  refine wpl_op (i := 28) rfl (o_skip hF348 rfl (unwanted_guard rfl rfl rfl hF348 rfl rfl rfl) rfl rfl ?_)
                  intro a349 hF350; clear hF348
                  refine wpl_op (i := 29) rfl (o_skip hF350 rfl (unwanted_guard rfl rfl rfl hF350 rfl rfl rfl) rfl rfl ?_)
                  intro a351 hF352; clear hF350
                  refine wpl_op (i := 30) rfl (o_skip hF352 rfl (unwanted_guard rfl rfl rfl hF352 rfl rfl rfl) rfl rfl ?_)
                  intro a353 hF354; clear hF352
                  refine wpl_op (i := 31) rfl (o_val (v := (.bool true)) hF354 rfl rfl rfl rfl (rn_pickT (c_true hF354 rfl rfl) rfl) ?_)
                  intro a355 hF356; clear hF354
                  refine wpList_nil ?_
                  refine hK145 _ _ ?_
                  clear hK145
                  have hF357 := ((((((((hF356.nil.cons (hF356.get (t := 62) (v := (.bool true)) rfl)).cons (hF356.get (t := 4) (v := (.pointer (some ⟨g132, 0, none⟩))) rfl)).cons (hF356.get (t := 23) (v := (.bool (decide (((k : Nat) : Int) < ((l.length : Nat) : Int))))) rfl)).cons (hF356.get (t := 3) (v := (.int .i64 (k : Nat))) rfl)).cons (hF356.get (t := 18) (v := (.bool (decide ((8192 : Int) < ((l.length : Nat) : Int))))) rfl)).cons (hF356.get (t := 2) (v := (.int .i64 0)) rfl)).cons (hF356.get (t := 1) (v := (.pointer (some ⟨g2, 0, none⟩))) rfl)).cons (hF356.get (t := 0) (v := (.agg #[(.int .i64 n), (.slice A l.length c)])) rfl))
                  clear hF356
                  refine wp_cond_true (c_true hF357 rfl rfl) ?_
                  refine wp_seq_k (fun K358 hK358 => ?_)
                  refine wp_region_lit ?_
                  refine wpl_op (i := 0) rfl (o_val (v := (.int .i64 150)) hF357 rfl rfl rfl rfl (rn_assign rfl) ?_)
                  intro a359 hF360; clear hF357
                  refine wpList_nil ?_
                  refine hK358 _ _ ?_
                  clear hK358
                  refine wp_ret ?_
                  refine ret_block ?_
                  refine ret_then ?_
                  refine ret_then ?_
                  refine ret_block ?_
                  refine ret_then ?_
                  refine ret1 hF360 rfl rfl ?_
                  exact ⟨by rw [vOk_no2 (k := k) (by omega) (okE_no (by omega))], ((((Ext.refl w).trans hx94).trans hx135).grownN hg142 (by omega))⟩
                · skip
                  refine wpl_op (i := 23) rfl (o_val (v := (.pointer (some ⟨g132, 2, none⟩))) hF337 rfl (wanted_guard rfl rfl rfl hF337 rfl (decide_eq_false hc338) rfl) rfl rfl (rn_field Try.underlying41 rfl (by kernel_rfl) (hF337.get rfl) rfl) ?_)
                  intro a361 hF362; clear hF337
                  refine wpl_op (i := 24) rfl (o_val (v := (.int .i64 ((l.getD k default).w))) hF362 rfl (wanted_guard rfl rfl rfl hF362 rfl (decide_eq_false hc338) rfl) rfl rfl (rn_load (isAgg_no Try.underlying3 rfl) (hF362.get rfl) (b141.rule.1 2)) ?_)
                  intro a363 hF364; clear hF362
                  refine wpl_op (i := 25) rfl (o_val (v := (.bool (decide (((l.getD k default).w : Int) < (-35184372088832 : Int))))) hF364 rfl (wanted_guard rfl rfl rfl hF364 rfl (decide_eq_false hc338) rfl) rfl rfl (rn_lss (hF364.get rfl) rfl) ?_)
                  intro a365 hF366; clear hF364
                  refine wpl_op (i := 26) rfl (o_val (v := (.bool (decide (((l.getD k default).w : Int) < (-35184372088832 : Int))))) hF366 rfl rfl rfl rfl (rn_pickF (c_false hF366 rfl (decide_eq_false hc338)) (hF366.get rfl)) ?_)
                  intro a367 hF368; clear hF366
                  refine wpl_op (i := 27) rfl (o_val (v := (.bool (decide (((l.getD k default).w : Int) < (-35184372088832 : Int))))) hF368 rfl rfl rfl rfl (rn_move (hF368.get rfl)) ?_)
                  intro a369 hF370; clear hF368
                  by_cases hc371 : ((l.getD k default).w : Int) < (-35184372088832 : Int)
                  · skip
                    refine wpl_op (i := 28) rfl (o_skip hF370 rfl (unwanted_guard rfl rfl rfl hF370 rfl (decide_eq_true hc371) rfl) rfl rfl ?_)
                    intro a372 hF373; clear hF370
                    refine wpl_op (i := 29) rfl (o_skip hF373 rfl (unwanted_guard rfl rfl rfl hF373 rfl (decide_eq_true hc371) rfl) rfl rfl ?_)
                    intro a374 hF375; clear hF373
                    refine wpl_op (i := 30) rfl (o_skip hF375 rfl (unwanted_guard rfl rfl rfl hF375 rfl (decide_eq_true hc371) rfl) rfl rfl ?_)
                    intro a376 hF377; clear hF375
                    refine wpl_op (i := 31) rfl (o_val (v := (.bool true)) hF377 rfl rfl rfl rfl (rn_pickT (c_true hF377 rfl (decide_eq_true hc371)) rfl) ?_)
                    intro a378 hF379; clear hF377
                    refine wpList_nil ?_
                    refine hK145 _ _ ?_
                    clear hK145
                    have hF380 := ((((((((hF379.nil.cons (hF379.get (t := 62) (v := (.bool true)) rfl)).cons (hF379.get (t := 4) (v := (.pointer (some ⟨g132, 0, none⟩))) rfl)).cons (hF379.get (t := 23) (v := (.bool (decide (((k : Nat) : Int) < ((l.length : Nat) : Int))))) rfl)).cons (hF379.get (t := 3) (v := (.int .i64 (k : Nat))) rfl)).cons (hF379.get (t := 18) (v := (.bool (decide ((8192 : Int) < ((l.length : Nat) : Int))))) rfl)).cons (hF379.get (t := 2) (v := (.int .i64 0)) rfl)).cons (hF379.get (t := 1) (v := (.pointer (some ⟨g2, 0, none⟩))) rfl)).cons (hF379.get (t := 0) (v := (.agg #[(.int .i64 n), (.slice A l.length c)])) rfl))
                    clear hF379
                    refine wp_cond_true (c_true hF380 rfl rfl) ?_
                    refine wp_seq_k (fun K381 hK381 => ?_)
                    refine wp_region_lit ?_
                    refine wpl_op (i := 0) rfl (o_val (v := (.int .i64 150)) hF380 rfl rfl rfl rfl (rn_assign rfl) ?_)
                    intro a382 hF383; clear hF380
                    refine wpList_nil ?_
                    refine hK381 _ _ ?_
                    clear hK381
                    refine wp_ret ?_
                    refine ret_block ?_
                    refine ret_then ?_
                    refine ret_then ?_
                    refine ret_block ?_
                    refine ret_then ?_
                    refine ret1 hF383 rfl rfl ?_
                    exact ⟨by rw [vOk_no2 (k := k) (by omega) (okE_no (by omega))], ((((Ext.refl w).trans hx94).trans hx135).grownN hg142 (by omega))⟩
                  · skip
                    refine wpl_op (i := 28) rfl (o_val (v := (.pointer (some ⟨g132, 2, none⟩))) hF370 rfl (wanted_guard rfl rfl rfl hF370 rfl (decide_eq_false hc371) rfl) rfl rfl (rn_field Try.underlying41 rfl (by kernel_rfl) (hF370.get rfl) rfl) ?_)
                    intro a384 hF385; clear hF370
                    refine wpl_op (i := 29) rfl (o_val (v := (.int .i64 ((l.getD k default).w))) hF385 rfl (wanted_guard rfl rfl rfl hF385 rfl (decide_eq_false hc371) rfl) rfl rfl (rn_load (isAgg_no Try.underlying3 rfl) (hF385.get rfl) (b141.rule.1 2)) ?_)
                    intro a386 hF387; clear hF385
                    refine wpl_op (i := 30) rfl (o_val (v := (.bool (decide ((35184372088832 : Int) < ((l.getD k default).w : Int))))) hF387 rfl (wanted_guard rfl rfl rfl hF387 rfl (decide_eq_false hc371) rfl) rfl rfl (rn_gtr (hF387.get rfl) rfl) ?_)
                    intro a388 hF389; clear hF387
                    refine wpl_op (i := 31) rfl (o_val (v := (.bool (decide ((35184372088832 : Int) < ((l.getD k default).w : Int))))) hF389 rfl rfl rfl rfl (rn_pickF (c_false hF389 rfl (decide_eq_false hc371)) (hF389.get rfl)) ?_)
                    intro a390 hF391; clear hF389
                    refine wpList_nil ?_
                    refine hK145 _ _ ?_
                    clear hK145
                    have hF392 := ((((((((hF391.nil.cons (hF391.get (t := 62) (v := (.bool (decide ((35184372088832 : Int) < ((l.getD k default).w : Int))))) rfl)).cons (hF391.get (t := 4) (v := (.pointer (some ⟨g132, 0, none⟩))) rfl)).cons (hF391.get (t := 23) (v := (.bool (decide (((k : Nat) : Int) < ((l.length : Nat) : Int))))) rfl)).cons (hF391.get (t := 3) (v := (.int .i64 (k : Nat))) rfl)).cons (hF391.get (t := 18) (v := (.bool (decide ((8192 : Int) < ((l.length : Nat) : Int))))) rfl)).cons (hF391.get (t := 2) (v := (.int .i64 0)) rfl)).cons (hF391.get (t := 1) (v := (.pointer (some ⟨g2, 0, none⟩))) rfl)).cons (hF391.get (t := 0) (v := (.agg #[(.int .i64 n), (.slice A l.length c)])) rfl))
                    clear hF391
                    by_cases hc393 : (35184372088832 : Int) < ((l.getD k default).w : Int)
                    · skip
                      refine wp_cond_true (c_true hF392 rfl (decide_eq_true hc393)) ?_
                      refine wp_seq_k (fun K394 hK394 => ?_)
                      refine wp_region_lit ?_
                      refine wpl_op (i := 0) rfl (o_val (v := (.int .i64 150)) hF392 rfl rfl rfl rfl (rn_assign rfl) ?_)
                      intro a395 hF396; clear hF392
                      refine wpList_nil ?_
                      refine hK394 _ _ ?_
                      clear hK394
                      refine wp_ret ?_
                      refine ret_block ?_
                      refine ret_then ?_
                      refine ret_then ?_
                      refine ret_block ?_
                      refine ret_then ?_
                      refine ret1 hF396 rfl rfl ?_
                      exact ⟨by rw [vOk_no2 (k := k) (by omega) (okE_no (by omega))], ((((Ext.refl w).trans hx94).trans hx135).grownN hg142 (by omega))⟩
                    · skip
                      refine wp_cond_false (c_false hF392 rfl (decide_eq_false hc393)) ?_
                      refine wp_skip ?_
                      refine hK116 _ _ ?_
                      clear hK116
                      refine wp_region_lit ?_
                      refine wpl_op (i := 0) rfl (o_val (v := (.int .i64 (k : Nat))) hF392 rfl rfl rfl rfl (rn_move (hF392.get rfl)) ?_)
                      intro a397 hF398; clear hF392
                      refine wpl_op (i := 1) rfl (o_val (v := (.int .i64 (k + 1 : Nat))) hF398 rfl rfl rfl rfl (rn_addN (a := k) (b := 1) (hF398.get rfl) rfl (by omega)) ?_)
                      intro a399 hF400; clear hF398
                      refine wpl_op (i := 2) rfl (o_val (v := (.int .i64 (k + 1 : Nat))) hF400 rfl rfl rfl rfl (rn_assign (hF400.get rfl)) ?_)
                      intro a401 hF402; clear hF400
                      refine wpList_nil ?_
                      refine ⟨⟨(k + 1), (((((hF402.nil.cons (q_get hF402 (t := 3) rfl (by first | rfl | (congr 1; omega) | (congr 1; done)))).cons (q_get hF402 (t := 18) rfl rfl)).cons (q_get hF402 (t := 2) rfl rfl)).cons (q_get hF402 (t := 1) rfl rfl)).cons (q_get hF402 (t := 0) rfl rfl)), (by omega), (upto_step hp96 (okE_iff.2 (by omega))), ((((Ext.refl w).trans hx94).trans hx135).grownN hg142 (by omega)), b221, (by omega)⟩, ?_⟩
                      rw [hF402.get (t := 3) rfl, hL99.get (t := 3) rfl]; simp [intOf] <;> omega
        · skip
          refine wp_cond_false (c_false hF114 rfl (decide_eq_false hc115)) ?_
          refine wp_exit ?_
          refine exit_then ?_
          refine exit_then ?_
          refine exit_here ?_
          refine hK87 _ _ ?_
          clear hK87
          refine wp_seq_k (fun K403 hK403 => ?_)
          refine wp_region_lit ?_
          refine wpl_op (i := 0) rfl (o_val (v := (.int .i64 0)) hF114 rfl rfl rfl rfl (rn_assign rfl) ?_)
          intro a404 hF405; clear hF114
          refine wpList_nil ?_
          refine hK403 _ _ ?_
          clear hK403
          refine wp_ret ?_
          refine ret1 hF405 rfl rfl ?_
          have hk : k = l.length := by omega
          subst hk
          exact ⟨by rw [chk_yes h0 hp96], ((Ext.refl w).trans hx94)⟩

theorem rcheck_at {v : Value} {m : Nat} (n : Int) (l : List E3) (w : World) (hf : Fl S w 3 v m (edVals l)) :
    Calls Try.prog 14 #[.agg #[.int .i64 n, v]] w (fun e w' => e = .returned (.int .i64 (chk n l)) ∧ Ext w w') := by
  have hm := Fl.edlen hf
  subst hm
  obtain ⟨A, c, rfl, _⟩ := hf.form
  exact rcheck_any A c n l w hf

set_option maxRecDepth 100000 in
set_option maxHeartbeats 1000000 in
theorem idx_int (f : FuncId) (cap : Array Value) (A : Option Addr) (c : Nat) (l : List Int) (p : Int → Bool) (w : World) (hf : Fl S w 1 (.slice A l.length c) l.length (intVals l)) (hen : ∀ (vs : Array Value) (W : World), (callFunc f vs).run Try.prog W = .ok (.enter f vs) W) (arg : Value → Array Value) (harg : ∀ v, #[v] ++ cap = arg v)
    (hp : ∀ (i : Nat) (W : World), i < l.length → Ext w W → Calls Try.prog f (arg (.int .i64 (l.getD i 0))) W (fun e w' => e = .returned (.bool (p (l.getD i 0))) ∧ Ext W w')) :
    Calls Try.prog 35 #[.slice A l.length c, .func (.func f) #[] cap] w (fun e w' => e = .returned (.int .i64 (idxF p l)) ∧ Ext w w') := by
  have hc : Fl (Clip S w) w 1 (.slice A l.length c) l.length (intVals l) := hf.clip
  have hcc := (Fl.cel hc).2.1
  refine calls_enter (l := [(.slice A l.length c), (.func (.func f) #[] cap)]) Try.func35 rfl rfl rfl (fun aA hF => ?_)
  refine wp_seq_k (fun K1 hK1 => ?_)
  refine wp_region_lit ?_
  refine wpl_op (i := 0) rfl (o_val (v := (.int .i64 0)) hF rfl rfl rfl rfl (rn_assign rfl) ?_)
  intro a2 hF3; clear hF
  refine wpList_nil ?_
  refine hK1 _ _ ?_
  clear hK1
  refine wp_seq_k (fun K4 hK4 => ?_)
  refine wp_seq_k (fun K5 hK5 => ?_)
  refine wp_region_lit ?_
  refine wpl_op (i := 0) rfl (o_val (v := (.slice A l.length c)) hF3 rfl rfl rfl rfl (rn_move (hF3.get rfl)) ?_)
  intro a6 hF7; clear hF3
  refine wpl_op (i := 1) rfl (o_val (v := (.int .i64 (l.length : Nat))) hF7 rfl rfl rfl rfl (rn_len_slice Try.underlying25 (hF7.get rfl)) ?_)
  intro a8 hF9; clear hF7
  refine wpl_op (i := 2) rfl (o_val (v := (.int .i64 0)) hF9 rfl rfl rfl rfl (rn_move rfl) ?_)
  intro a10 hF11; clear hF9
  refine wpList_nil ?_
  refine hK5 _ _ ?_
  clear hK5
  refine wp_block ?_
  refine wp_loop (fun a' W => ∃ (k : Nat), Sl 19 [(0, (.slice A l.length c)), (1, (.func (.func f) #[] cap)), (4, (.int .i64 0)), (7, (.int .i64 (l.length : Nat))), (8, (.int .i64 (k : Nat)))] a' ∧ k ≤ l.length ∧ (∀ j, j < k → p (l.getD j 0) = false) ∧ Ext w W ∧ w.heap.size ≤ W.heap.size) (fun a' _ => l.length - (intOf (a'.eval (.tmp 8))).toNat) ⟨0, (((((hF11.nil.cons (q_get hF11 (t := 8) rfl (by first | rfl | (congr 1; omega) | (congr 1; done)))).cons (q_get hF11 (t := 7) rfl rfl)).cons (q_get hF11 (t := 4) rfl rfl)).cons (q_get hF11 (t := 1) rfl rfl)).cons (q_get hF11 (t := 0) rfl rfl)), (by omega), (fun j hj => absurd hj (by omega)), (Ext.refl w), (Nat.le_refl _)⟩ ?_
  clear hF11
  rintro a12 w13 ⟨k, hF14, hp16, hp17, hx15, hf18⟩
  have hL19 := hF14
  have z20 := hx15.size
  refine wp_seq_k (fun K21 hK21 => ?_)
  refine wp_region_lit ?_
  refine wpl_op (i := 0) rfl (o_val (v := (.bool (decide (((k : Nat) : Int) < ((l.length : Nat) : Int))))) hF14 rfl rfl rfl rfl (rn_lss (hF14.get rfl) (hF14.get rfl)) ?_)
  intro a22 hF23; clear hF14
  refine wpList_nil ?_
  refine hK21 _ _ ?_
  clear hK21
  refine wp_seq_k (fun K24 hK24 => ?_)
  by_cases hc25 : ((k : Nat) : Int) < ((l.length : Nat) : Int)
  · skip
    refine wp_cond_true (c_true hF23 rfl (decide_eq_true hc25)) ?_
    refine wp_skip ?_
    refine hK24 _ _ ?_
    clear hK24
    refine wp_seq_k (fun K26 hK26 => ?_)
    refine wp_block ?_
    refine wp_seq_k (fun K27 hK27 => ?_)
    refine wp_region_lit ?_
    refine wpl_op (i := 0) rfl (o_val (v := (.int .i64 (k : Nat))) hF23 rfl rfl rfl rfl (rn_move (hF23.get rfl)) ?_)
    intro a28 hF29; clear hF23
    refine wpl_op (i := 1) rfl (o_val (v := (.int .i64 (k : Nat))) hF29 rfl rfl rfl rfl (rn_assign (hF29.get rfl)) ?_)
    intro a30 hF31; clear hF29
    refine wpList_nil ?_
    refine hK27 _ _ ?_
    clear hK27
    refine wp_seq_k (fun K32 hK32 => ?_)
    refine wp_region_lit ?_
    refine wpl_op (i := 0) rfl (o_val (v := (.func (.func f) #[] cap)) hF31 rfl rfl rfl rfl (rn_move (hF31.get rfl)) ?_)
    intro a33 hF34; clear hF31
    refine wpl_op (i := 1) rfl (o_val (v := (.slice A l.length c)) hF34 rfl rfl rfl rfl (rn_move (hF34.get rfl)) ?_)
    intro a35 hF36; clear hF34
    refine wpl_op (i := 2) rfl (o_val (v := (.int .i64 (k : Nat))) hF36 rfl rfl rfl rfl (rn_move (hF36.get rfl)) ?_)
    intro a37 hF38; clear hF36
    have d42 := (hc.ext hx15)
    obtain ⟨b39, o40, hA41, -⟩ := Fl.at d42 (by omega)
    refine wpl_op (i := 3) rfl (o_val (v := (.pointer (some ⟨b39, o40 + k, none⟩))) hF38 rfl rfl rfl rfl (rn_index1 Try.underlying25 (by kernel_rfl : (Try.prog.info? 3).map (·.size) = some 1) ((hF38.get rfl).trans (by rw [hA41])) (hF38.get rfl) (by omega : (0 : Int) ≤ (k : Nat)) (by omega : ((k : Nat) : Int) < ((l.length : Nat) : Int))) ?_)
    intro a43 hF44; clear hF38
    refine wpl_op (i := 4) rfl (o_val (v := (.int .i64 (l.getD k 0))) hF44 rfl rfl rfl rfl (rn_load (isAgg_no Try.underlying3 rfl) (hF44.get rfl) (Fl.cellAt d42 hA41 (intVals_at (i := k) (by omega)))) ?_)
    intro a45 hF46; clear hF44
    refine wpl_op (i := 5) rfl (o_call hF46 rfl rfl rfl rfl (rn_callvc (hF46.get rfl) (argsv_1 harg (hF46.get rfl)) (hen _ _)) (hp k _ (by omega) ((Ext.refl w).trans hx15)) ?_)
    rintro _ w47 ⟨rfl, hx48⟩
    refine ⟨_, rfl, ?_⟩; intro a49 hF50; clear hF46; have z51 := hx48.size
    refine wpList_nil ?_
    refine hK32 _ _ ?_
    clear hK32
    have hF52 := ((((((((hF50.nil.cons (hF50.get (t := 16) (v := (.bool (p (l.getD k 0)))) rfl)).cons (hF50.get (t := 5) (v := (.int .i64 (k : Nat))) rfl)).cons (hF50.get (t := 9) (v := (.bool (decide (((k : Nat) : Int) < ((l.length : Nat) : Int))))) rfl)).cons (hF50.get (t := 8) (v := (.int .i64 (k : Nat))) rfl)).cons (hF50.get (t := 7) (v := (.int .i64 (l.length : Nat))) rfl)).cons (hF50.get (t := 4) (v := (.int .i64 0)) rfl)).cons (hF50.get (t := 1) (v := (.func (.func f) #[] cap)) rfl)).cons (hF50.get (t := 0) (v := (.slice A l.length c)) rfl))
    clear hF50
    rcases Bool.eq_false_or_eq_true (p (l.getD k 0)) with hc53 | hc53
    · skip
      refine wp_cond_true (c_true hF52 rfl hc53) ?_
      refine wp_seq_k (fun K54 hK54 => ?_)
      refine wp_region_lit ?_
      refine wpl_op (i := 0) rfl (o_val (v := (.int .i64 (k : Nat))) hF52 rfl rfl rfl rfl (rn_move (hF52.get rfl)) ?_)
      intro a55 hF56; clear hF52
      refine wpl_op (i := 1) rfl (o_val (v := (.int .i64 (k : Nat))) hF56 rfl rfl rfl rfl (rn_assign (hF56.get rfl)) ?_)
      intro a57 hF58; clear hF56
      refine wpList_nil ?_
      refine hK54 _ _ ?_
      clear hK54
      refine wp_ret ?_
      refine ret_block ?_
      refine ret_then ?_
      refine ret_then ?_
      refine ret_block ?_
      refine ret_then ?_
      refine ret1 hF58 rfl rfl ?_
      exact ⟨by rw [idxF_at hp17 (by omega) hc53], (((Ext.refl w).trans hx15).trans hx48)⟩
    · skip
      refine wp_cond_false (c_false hF52 rfl hc53) ?_
      refine wp_skip ?_
      refine hK26 _ _ ?_
      clear hK26
      refine wp_region_lit ?_
      refine wpl_op (i := 0) rfl (o_val (v := (.int .i64 (k + 1 : Nat))) hF52 rfl rfl rfl rfl (rn_addN (a := k) (b := 1) (hF52.get rfl) rfl (by omega)) ?_)
      intro a59 hF60; clear hF52
      refine wpl_op (i := 1) rfl (o_val (v := (.int .i64 (k + 1 : Nat))) hF60 rfl rfl rfl rfl (rn_move (hF60.get rfl)) ?_)
      intro a61 hF62; clear hF60
      refine wpList_nil ?_
      refine ⟨⟨(k + 1), (((((hF62.nil.cons (q_get hF62 (t := 8) rfl (by first | rfl | (congr 1; omega) | (congr 1; done)))).cons (q_get hF62 (t := 7) rfl rfl)).cons (q_get hF62 (t := 4) rfl rfl)).cons (q_get hF62 (t := 1) rfl rfl)).cons (q_get hF62 (t := 0) rfl rfl)), (by omega), (upto_step hp17 hc53), (((Ext.refl w).trans hx15).trans hx48), (by omega)⟩, ?_⟩
      rw [hF62.get (t := 8) rfl, hL19.get (t := 8) rfl]; simp [intOf] <;> omega
  · skip
    refine wp_cond_false (c_false hF23 rfl (decide_eq_false hc25)) ?_
    refine wp_exit ?_
    refine exit_then ?_
    refine exit_then ?_
    refine exit_here ?_
    refine hK4 _ _ ?_
    clear hK4
    refine wp_seq_k (fun K63 hK63 => ?_)
    refine wp_region_lit ?_
    refine wpl_op (i := 0) rfl (o_val (v := (.int .i64 (-1))) hF23 rfl rfl rfl rfl (rn_assign rfl) ?_)
    intro a64 hF65; clear hF23
    refine wpList_nil ?_
    refine hK63 _ _ ?_
    clear hK63
    refine wp_ret ?_
    refine ret1 hF65 rfl rfl ?_
    have hk : k = l.length := by omega
    subst hk
    exact ⟨by rw [idxF_none hp17], ((Ext.refl w).trans hx15)⟩

set_option maxRecDepth 100000 in
set_option maxHeartbeats 1000000 in
theorem has_int (f : FuncId) (cap : Array Value) (A : Option Addr) (c : Nat) (l : List Int) (p : Int → Bool) (w : World) (hf : Fl S w 1 (.slice A l.length c) l.length (intVals l)) (hen : ∀ (vs : Array Value) (W : World), (callFunc f vs).run Try.prog W = .ok (.enter f vs) W) (arg : Value → Array Value) (harg : ∀ v, #[v] ++ cap = arg v)
    (hp : ∀ (i : Nat) (W : World), i < l.length → Ext w W → Calls Try.prog f (arg (.int .i64 (l.getD i 0))) W (fun e w' => e = .returned (.bool (p (l.getD i 0))) ∧ Ext W w')) :
    Calls Try.prog 27 #[.slice A l.length c, .func (.func f) #[] cap] w (fun e w' => e = .returned (.bool (l.any p)) ∧ Ext w w') := by
  refine calls_enter (l := [(.slice A l.length c), (.func (.func f) #[] cap)]) Try.func27 rfl rfl rfl (fun aA hF => ?_)
  refine wp_seq_k (fun K1 hK1 => ?_)
  refine wp_region_lit ?_
  refine wpl_op (i := 0) rfl (o_val (v := (.bool false)) hF rfl rfl rfl rfl (rn_assign rfl) ?_)
  intro a2 hF3; clear hF
  refine wpList_nil ?_
  refine hK1 _ _ ?_
  clear hK1
  refine wp_seq_k (fun K4 hK4 => ?_)
  refine wp_region_lit ?_
  refine wpl_op (i := 0) rfl (o_val (v := (.slice A l.length c)) hF3 rfl rfl rfl rfl (rn_move (hF3.get rfl)) ?_)
  intro a5 hF6; clear hF3
  refine wpl_op (i := 1) rfl (o_val (v := (.func (.func f) #[] cap)) hF6 rfl rfl rfl rfl (rn_move (hF6.get rfl)) ?_)
  intro a7 hF8; clear hF6
  refine wpl_op (i := 2) rfl (o_call hF8 rfl rfl rfl rfl (rn_call (args2 (hF8.get rfl) (hF8.get rfl)) rfl (by kernel_rfl)) (idx_int f cap A c l p _ hf hen arg harg hp) ?_)
  rintro _ w9 ⟨rfl, hx10⟩
  refine ⟨_, rfl, ?_⟩; intro a11 hF12; clear hF8; have z13 := hx10.size
  refine wpl_op (i := 3) rfl (o_val (v := (.bool (decide ((0 : Int) ≤ ((idxF p l) : Int))))) hF12 rfl rfl rfl rfl (rn_geq (hF12.get rfl) rfl) ?_)
  intro a14 hF15; clear hF12
  refine wpl_op (i := 4) rfl (o_val (v := (.bool (decide ((0 : Int) ≤ ((idxF p l) : Int))))) hF15 rfl rfl rfl rfl (rn_assign (hF15.get rfl)) ?_)
  intro a16 hF17; clear hF15
  refine wpList_nil ?_
  refine hK4 _ _ ?_
  clear hK4
  have hF18 := (((hF17.nil.cons (hF17.get (t := 4) (v := (.bool (decide ((0 : Int) ≤ ((idxF p l) : Int))))) rfl)).cons (hF17.get (t := 1) (v := (.func (.func f) #[] cap)) rfl)).cons (hF17.get (t := 0) (v := (.slice A l.length c)) rfl))
  clear hF17
  refine wp_ret ?_
  refine ret1 hF18 rfl rfl ?_
  exact ⟨by rw [idxF_any], ((Ext.refl w).trans hx10)⟩

theorem has_int_at {v : Value} {m : Nat} (f : FuncId) (cap : Array Value) (l : List Int) (p : Int → Bool) (w : World) (hf : Fl S w 1 v m (intVals l)) (hen : ∀ (vs : Array Value) (W : World), (callFunc f vs).run Try.prog W = .ok (.enter f vs) W) (arg : Value → Array Value) (harg : ∀ v, #[v] ++ cap = arg v)
    (hp : ∀ (i : Nat) (W : World), i < l.length → Ext w W → Calls Try.prog f (arg (.int .i64 (l.getD i 0))) W (fun e w' => e = .returned (.bool (p (l.getD i 0))) ∧ Ext W w')) :
    Calls Try.prog 27 #[v, .func (.func f) #[] cap] w (fun e w' => e = .returned (.bool (l.any p)) ∧ Ext w w') := by
  have hm := Fl.ilen hf
  subst hm
  obtain ⟨A, c, rfl, _⟩ := hf.form
  exact has_int f cap A c l p w hf hen arg harg hp

set_option maxRecDepth 100000 in
set_option maxHeartbeats 1000000 in
theorem idx_ed (f : FuncId) (cap : Array Value) (A : Option Addr) (c : Nat) (l : List E3) (p : E3 → Bool) (w : World) (hf : Fl S w 3 (.slice A l.length c) l.length (edVals l)) (hen : ∀ (vs : Array Value) (W : World), (callFunc f vs).run Try.prog W = .ok (.enter f vs) W) (arg : Value → Array Value) (harg : ∀ v, #[v] ++ cap = arg v)
    (hp : ∀ (i : Nat) (W : World), i < l.length → Ext w W → Calls Try.prog f (arg (.agg #[.int .i64 (l.getD i default).a, .int .i64 (l.getD i default).b, .int .i64 (l.getD i default).w])) W (fun e w' => e = .returned (.bool (p (l.getD i default))) ∧ Ext W w')) :
    Calls Try.prog 36 #[.slice A l.length c, .func (.func f) #[] cap] w (fun e w' => e = .returned (.int .i64 (idxF p l)) ∧ Ext w w') := by
  have hc : Fl (Clip S w) w 3 (.slice A l.length c) l.length (edVals l) := hf.clip
  have hcc := (Fl.cel hc).2.1
  refine calls_enter (l := [(.slice A l.length c), (.func (.func f) #[] cap)]) Try.func36 rfl rfl rfl (fun aA hF => ?_)
  refine wp_seq_k (fun K1 hK1 => ?_)
  refine wp_region_lit ?_
  refine wpl_op (i := 0) rfl (o_val (v := (.int .i64 0)) hF rfl rfl rfl rfl (rn_assign rfl) ?_)
  intro a2 hF3; clear hF
  refine wpList_nil ?_
  refine hK1 _ _ ?_
  clear hK1
  refine wp_seq_k (fun K4 hK4 => ?_)
  refine wp_seq_k (fun K5 hK5 => ?_)
  refine wp_region_lit ?_
  refine wpl_op (i := 0) rfl (o_val (v := (.slice A l.length c)) hF3 rfl rfl rfl rfl (rn_move (hF3.get rfl)) ?_)
  intro a6 hF7; clear hF3
  refine wpl_op (i := 1) rfl (o_val (v := (.int .i64 (l.length : Nat))) hF7 rfl rfl rfl rfl (rn_len_slice Try.underlying22 (hF7.get rfl)) ?_)
  intro a8 hF9; clear hF7
  refine wpl_op (i := 2) rfl (o_val (v := (.int .i64 0)) hF9 rfl rfl rfl rfl (rn_move rfl) ?_)
  intro a10 hF11; clear hF9
  refine wpList_nil ?_
  refine hK5 _ _ ?_
  clear hK5
  refine wp_block ?_
  refine wp_loop (fun a' W => ∃ (k : Nat), Sl 19 [(0, (.slice A l.length c)), (1, (.func (.func f) #[] cap)), (4, (.int .i64 0)), (7, (.int .i64 (l.length : Nat))), (8, (.int .i64 (k : Nat)))] a' ∧ k ≤ l.length ∧ (∀ j, j < k → p (l.getD j default) = false) ∧ Ext w W ∧ w.heap.size ≤ W.heap.size) (fun a' _ => l.length - (intOf (a'.eval (.tmp 8))).toNat) ⟨0, (((((hF11.nil.cons (q_get hF11 (t := 8) rfl (by first | rfl | (congr 1; omega) | (congr 1; done)))).cons (q_get hF11 (t := 7) rfl rfl)).cons (q_get hF11 (t := 4) rfl rfl)).cons (q_get hF11 (t := 1) rfl rfl)).cons (q_get hF11 (t := 0) rfl rfl)), (by omega), (fun j hj => absurd hj (by omega)), (Ext.refl w), (Nat.le_refl _)⟩ ?_
  clear hF11
  rintro a12 w13 ⟨k, hF14, hp16, hp17, hx15, hf18⟩
  have hL19 := hF14
  have z20 := hx15.size
  refine wp_seq_k (fun K21 hK21 => ?_)
  refine wp_region_lit ?_
  refine wpl_op (i := 0) rfl (o_val (v := (.bool (decide (((k : Nat) : Int) < ((l.length : Nat) : Int))))) hF14 rfl rfl rfl rfl (rn_lss (hF14.get rfl) (hF14.get rfl)) ?_)
  intro a22 hF23; clear hF14
  refine wpList_nil ?_
  refine hK21 _ _ ?_
  clear hK21
  refine wp_seq_k (fun K24 hK24 => ?_)
  by_cases hc25 : ((k : Nat) : Int) < ((l.length : Nat) : Int)
  · skip
    refine wp_cond_true (c_true hF23 rfl (decide_eq_true hc25)) ?_
    refine wp_skip ?_
    refine hK24 _ _ ?_
    clear hK24
    refine wp_seq_k (fun K26 hK26 => ?_)
    refine wp_block ?_
    refine wp_seq_k (fun K27 hK27 => ?_)
    refine wp_region_lit ?_
    refine wpl_op (i := 0) rfl (o_val (v := (.int .i64 (k : Nat))) hF23 rfl rfl rfl rfl (rn_move (hF23.get rfl)) ?_)
    intro a28 hF29; clear hF23
    refine wpl_op (i := 1) rfl (o_val (v := (.int .i64 (k : Nat))) hF29 rfl rfl rfl rfl (rn_assign (hF29.get rfl)) ?_)
    intro a30 hF31; clear hF29
    refine wpList_nil ?_
    refine hK27 _ _ ?_
    clear hK27
    refine wp_seq_k (fun K32 hK32 => ?_)
    refine wp_region_lit ?_
    refine wpl_op (i := 0) rfl (o_val (v := (.func (.func f) #[] cap)) hF31 rfl rfl rfl rfl (rn_move (hF31.get rfl)) ?_)
    intro a33 hF34; clear hF31
    refine wpl_op (i := 1) rfl (o_val (v := (.slice A l.length c)) hF34 rfl rfl rfl rfl (rn_move (hF34.get rfl)) ?_)
    intro a35 hF36; clear hF34
    refine wpl_op (i := 2) rfl (o_val (v := (.int .i64 (k : Nat))) hF36 rfl rfl rfl rfl (rn_move (hF36.get rfl)) ?_)
    intro a37 hF38; clear hF36
    have d42 := (hc.ext hx15)
    obtain ⟨b39, o40, hA41, -⟩ := Fl.at d42 (by omega)
    refine wpl_op (i := 3) rfl (o_val (v := (.pointer (some ⟨b39, o40 + k * 3, none⟩))) hF38 rfl rfl rfl rfl (rn_indexE Try.underlying22 (by kernel_rfl : (Try.prog.info? 41).map (·.size) = some 3) ((hF38.get rfl).trans (by rw [hA41])) (hF38.get rfl) (by omega : (0 : Int) ≤ (k : Nat)) (by omega : ((k : Nat) : Int) < ((l.length : Nat) : Int)) (by omega)) ?_)
    intro a43 hF44; clear hF38
    refine wpl_op (i := 4) rfl (o_val (v := (.agg #[(.int .i64 ((l.getD k default).a)), (.int .i64 ((l.getD k default).b)), (.int .i64 ((l.getD k default).w))])) hF44 rfl rfl rfl rfl (rn_loadN (cs := [(.int .i64 ((l.getD k default).a)), (.int .i64 ((l.getD k default).b)), (.int .i64 ((l.getD k default).w))]) (hF44.get rfl) Try.underlying41 rfl (by kernel_rfl : (Try.prog.info? 41).map (·.size) = some 3) (Fl.recAt edCells_k d42 hA41 (by omega))) ?_)
    intro a45 hF46; clear hF44
    refine wpl_op (i := 5) rfl (o_call hF46 rfl rfl rfl rfl (rn_callvc (hF46.get rfl) (argsv_1 harg (hF46.get rfl)) (hen _ _)) (hp k _ (by omega) ((Ext.refl w).trans hx15)) ?_)
    rintro _ w47 ⟨rfl, hx48⟩
    refine ⟨_, rfl, ?_⟩; intro a49 hF50; clear hF46; have z51 := hx48.size
    refine wpList_nil ?_
    refine hK32 _ _ ?_
    clear hK32
    have hF52 := ((((((((hF50.nil.cons (hF50.get (t := 16) (v := (.bool (p (l.getD k default)))) rfl)).cons (hF50.get (t := 5) (v := (.int .i64 (k : Nat))) rfl)).cons (hF50.get (t := 9) (v := (.bool (decide (((k : Nat) : Int) < ((l.length : Nat) : Int))))) rfl)).cons (hF50.get (t := 8) (v := (.int .i64 (k : Nat))) rfl)).cons (hF50.get (t := 7) (v := (.int .i64 (l.length : Nat))) rfl)).cons (hF50.get (t := 4) (v := (.int .i64 0)) rfl)).cons (hF50.get (t := 1) (v := (.func (.func f) #[] cap)) rfl)).cons (hF50.get (t := 0) (v := (.slice A l.length c)) rfl))
    clear hF50
    rcases Bool.eq_false_or_eq_true (p (l.getD k default)) with hc53 | hc53
    · skip
      refine wp_cond_true (c_true hF52 rfl hc53) ?_
      refine wp_seq_k (fun K54 hK54 => ?_)
      refine wp_region_lit ?_
      refine wpl_op (i := 0) rfl (o_val (v := (.int .i64 (k : Nat))) hF52 rfl rfl rfl rfl (rn_move (hF52.get rfl)) ?_)
      intro a55 hF56; clear hF52
      refine wpl_op (i := 1) rfl (o_val (v := (.int .i64 (k : Nat))) hF56 rfl rfl rfl rfl (rn_assign (hF56.get rfl)) ?_)
      intro a57 hF58; clear hF56
      refine wpList_nil ?_
      refine hK54 _ _ ?_
      clear hK54
      refine wp_ret ?_
      refine ret_block ?_
      refine ret_then ?_
      refine ret_then ?_
      refine ret_block ?_
      refine ret_then ?_
      refine ret1 hF58 rfl rfl ?_
      exact ⟨by rw [idxF_at hp17 (by omega) hc53], (((Ext.refl w).trans hx15).trans hx48)⟩
    · skip
      refine wp_cond_false (c_false hF52 rfl hc53) ?_
      refine wp_skip ?_
      refine hK26 _ _ ?_
      clear hK26
      refine wp_region_lit ?_
      refine wpl_op (i := 0) rfl (o_val (v := (.int .i64 (k + 1 : Nat))) hF52 rfl rfl rfl rfl (rn_addN (a := k) (b := 1) (hF52.get rfl) rfl (by omega)) ?_)
      intro a59 hF60; clear hF52
      refine wpl_op (i := 1) rfl (o_val (v := (.int .i64 (k + 1 : Nat))) hF60 rfl rfl rfl rfl (rn_move (hF60.get rfl)) ?_)
      intro a61 hF62; clear hF60
      refine wpList_nil ?_
      refine ⟨⟨(k + 1), (((((hF62.nil.cons (q_get hF62 (t := 8) rfl (by first | rfl | (congr 1; omega) | (congr 1; done)))).cons (q_get hF62 (t := 7) rfl rfl)).cons (q_get hF62 (t := 4) rfl rfl)).cons (q_get hF62 (t := 1) rfl rfl)).cons (q_get hF62 (t := 0) rfl rfl)), (by omega), (upto_step hp17 hc53), (((Ext.refl w).trans hx15).trans hx48), (by omega)⟩, ?_⟩
      rw [hF62.get (t := 8) rfl, hL19.get (t := 8) rfl]; simp [intOf] <;> omega
  · skip
    refine wp_cond_false (c_false hF23 rfl (decide_eq_false hc25)) ?_
    refine wp_exit ?_
    refine exit_then ?_
    refine exit_then ?_
    refine exit_here ?_
    refine hK4 _ _ ?_
    clear hK4
    refine wp_seq_k (fun K63 hK63 => ?_)
    refine wp_region_lit ?_
    refine wpl_op (i := 0) rfl (o_val (v := (.int .i64 (-1))) hF23 rfl rfl rfl rfl (rn_assign rfl) ?_)
    intro a64 hF65; clear hF23
    refine wpList_nil ?_
    refine hK63 _ _ ?_
    clear hK63
    refine wp_ret ?_
    refine ret1 hF65 rfl rfl ?_
    have hk : k = l.length := by omega
    subst hk
    exact ⟨by rw [idxF_none hp17], ((Ext.refl w).trans hx15)⟩

set_option maxRecDepth 100000 in
set_option maxHeartbeats 1000000 in
theorem has_ed (f : FuncId) (cap : Array Value) (A : Option Addr) (c : Nat) (l : List E3) (p : E3 → Bool) (w : World) (hf : Fl S w 3 (.slice A l.length c) l.length (edVals l)) (hen : ∀ (vs : Array Value) (W : World), (callFunc f vs).run Try.prog W = .ok (.enter f vs) W) (arg : Value → Array Value) (harg : ∀ v, #[v] ++ cap = arg v)
    (hp : ∀ (i : Nat) (W : World), i < l.length → Ext w W → Calls Try.prog f (arg (.agg #[.int .i64 (l.getD i default).a, .int .i64 (l.getD i default).b, .int .i64 (l.getD i default).w])) W (fun e w' => e = .returned (.bool (p (l.getD i default))) ∧ Ext W w')) :
    Calls Try.prog 29 #[.slice A l.length c, .func (.func f) #[] cap] w (fun e w' => e = .returned (.bool (l.any p)) ∧ Ext w w') := by
  refine calls_enter (l := [(.slice A l.length c), (.func (.func f) #[] cap)]) Try.func29 rfl rfl rfl (fun aA hF => ?_)
  refine wp_seq_k (fun K1 hK1 => ?_)
  refine wp_region_lit ?_
  refine wpl_op (i := 0) rfl (o_val (v := (.bool false)) hF rfl rfl rfl rfl (rn_assign rfl) ?_)
  intro a2 hF3; clear hF
  refine wpList_nil ?_
  refine hK1 _ _ ?_
  clear hK1
  refine wp_seq_k (fun K4 hK4 => ?_)
  refine wp_region_lit ?_
  refine wpl_op (i := 0) rfl (o_val (v := (.slice A l.length c)) hF3 rfl rfl rfl rfl (rn_move (hF3.get rfl)) ?_)
  intro a5 hF6; clear hF3
  refine wpl_op (i := 1) rfl (o_val (v := (.func (.func f) #[] cap)) hF6 rfl rfl rfl rfl (rn_move (hF6.get rfl)) ?_)
  intro a7 hF8; clear hF6
  refine wpl_op (i := 2) rfl (o_call hF8 rfl rfl rfl rfl (rn_call (args2 (hF8.get rfl) (hF8.get rfl)) rfl (by kernel_rfl)) (idx_ed f cap A c l p _ hf hen arg harg hp) ?_)
  rintro _ w9 ⟨rfl, hx10⟩
  refine ⟨_, rfl, ?_⟩; intro a11 hF12; clear hF8; have z13 := hx10.size
  refine wpl_op (i := 3) rfl (o_val (v := (.bool (decide ((0 : Int) ≤ ((idxF p l) : Int))))) hF12 rfl rfl rfl rfl (rn_geq (hF12.get rfl) rfl) ?_)
  intro a14 hF15; clear hF12
  refine wpl_op (i := 4) rfl (o_val (v := (.bool (decide ((0 : Int) ≤ ((idxF p l) : Int))))) hF15 rfl rfl rfl rfl (rn_assign (hF15.get rfl)) ?_)
  intro a16 hF17; clear hF15
  refine wpList_nil ?_
  refine hK4 _ _ ?_
  clear hK4
  have hF18 := (((hF17.nil.cons (hF17.get (t := 4) (v := (.bool (decide ((0 : Int) ≤ ((idxF p l) : Int))))) rfl)).cons (hF17.get (t := 1) (v := (.func (.func f) #[] cap)) rfl)).cons (hF17.get (t := 0) (v := (.slice A l.length c)) rfl))
  clear hF17
  refine wp_ret ?_
  refine ret1 hF18 rfl rfl ?_
  exact ⟨by rw [idxF_any], ((Ext.refl w).trans hx10)⟩

theorem has_ed_at {v : Value} {m : Nat} (f : FuncId) (cap : Array Value) (l : List E3) (p : E3 → Bool) (w : World) (hf : Fl S w 3 v m (edVals l)) (hen : ∀ (vs : Array Value) (W : World), (callFunc f vs).run Try.prog W = .ok (.enter f vs) W) (arg : Value → Array Value) (harg : ∀ v, #[v] ++ cap = arg v)
    (hp : ∀ (i : Nat) (W : World), i < l.length → Ext w W → Calls Try.prog f (arg (.agg #[.int .i64 (l.getD i default).a, .int .i64 (l.getD i default).b, .int .i64 (l.getD i default).w])) W (fun e w' => e = .returned (.bool (p (l.getD i default))) ∧ Ext W w')) :
    Calls Try.prog 29 #[v, .func (.func f) #[] cap] w (fun e w' => e = .returned (.bool (l.any p)) ∧ Ext w w') := by
  have hm := Fl.edlen hf
  subst hm
  obtain ⟨A, c, rfl, _⟩ := hf.form
  exact has_ed f cap A c l p w hf hen arg harg hp

end Go.Proofs.Ytjmdodgmoehfkaa
