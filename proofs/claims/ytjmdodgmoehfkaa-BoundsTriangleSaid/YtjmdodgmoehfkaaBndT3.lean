/- The law BoundsTriangle, walked. -/
import Derived.Test.YtjmdodgmoehfkaaProg
import Derived.Test.YtjmdodgmoehfkaaBndS
import Derived.KernelRfl
namespace Go.Proofs.Ytjmdodgmoehfkaa
open Go.RowKit

variable {S S' : Nat → Prop}

set_option maxRecDepth 100000 in
set_option maxHeartbeats 1000000 in
theorem triangle_any (A : Option Addr) (c : Nat) (n : Int) (l : List E3) (w : World) (hf : Fl S w 3 (.slice A l.length c) l.length (edVals l)) :
    Calls Try.prog 5 #[.agg #[.int .i64 n, .slice A l.length c]] w (fun e w' => e = .returned (.bool true) ∧ Ext w w') := by
  have hc : Fl (Clip S w) w 3 (.slice A l.length c) l.length (edVals l) := hf.clip
  have hcc := (Fl.cel hc).2.1
  refine calls_enter (l := [(.agg #[(.int .i64 n), (.slice A l.length c)])]) Try.func5 rfl rfl rfl (fun aA hF => ?_)
  refine wp_seq_k (fun K1 hK1 => ?_)
  refine wp_region_lit ?_
  refine wpl_op (i := 0) rfl (o_new (fun g => (.pointer (some ⟨g, 0, none⟩))) [(.int .i64 n), (.slice A l.length c)] 24 hF rfl rfl rfl rfl (rn_box (hF.get rfl) (by kernel_rfl)) ?_)
  intro g2 w3 a8 hF9 z6 z7 b4 hx5; clear hF
  refine wpl_op (i := 1) rfl (o_val (v := (.bool false)) hF9 rfl rfl rfl rfl (rn_assign rfl) ?_)
  intro a10 hF11; clear hF9
  refine wpList_nil ?_
  refine hK1 _ _ ?_
  clear hK1
  refine wp_seq_k (fun K12 hK12 => ?_)
  refine wp_seq_k (fun K13 hK13 => ?_)
  refine wp_region_lit ?_
  refine wpl_op (i := 0) rfl (o_call hF11 rfl rfl rfl rfl (rn_call (args0 ) rfl (by kernel_rfl)) (sane_any _) ?_)
  rintro _ w14 ⟨rfl, hx15⟩
  refine ⟨_, rfl, ?_⟩; intro a16 hF17; clear hF11; have z18 := hx15.size
  refine wpl_op (i := 1) rfl (o_val (v := (.bool false)) hF17 rfl rfl rfl rfl (rn_not' (hF17.get rfl) rfl) ?_)
  intro a19 hF20; clear hF17
  refine wpList_nil ?_
  refine hK13 _ _ ?_
  clear hK13
  refine wp_cond_false (c_false hF20 rfl rfl) ?_
  refine wp_skip ?_
  refine hK12 _ _ ?_
  clear hK12
  refine wp_seq_k (fun K21 hK21 => ?_)
  refine wp_seq_k (fun K22 hK22 => ?_)
  refine wp_region_lit ?_
  have b23 : Blk w14 g2 24 [(.int .i64 n), (.slice A l.length c)] := (b4.ext hx15)
  refine wpl_op (i := 0) rfl (o_val (v := (.agg #[(.int .i64 n), (.slice A l.length c)])) hF20 rfl rfl rfl rfl (rn_loadBlk (hF20.get rfl) b23 Try.underlying24 rfl (by kernel_rfl : (Try.prog.info? 24).map (·.size) = some 2)) ?_)
  intro a24 hF25; clear hF20
  have d26 := ((hc.ext hx5).ext hx15)
  refine wpl_op (i := 1) rfl (o_call hF25 rfl rfl rfl rfl (rn_call (args1 (hF25.get rfl)) rfl (by kernel_rfl)) (few_at (v := (.slice A l.length c)) n l _ d26) ?_)
  rintro _ w27 ⟨rfl, hx28⟩
  refine ⟨_, rfl, ?_⟩; intro a29 hF30; clear hF25; have z31 := hx28.size
  refine wpl_op (i := 2) rfl (o_val (v := (.bool (!(few n l)))) hF30 rfl rfl rfl rfl (rn_not' (hF30.get rfl) rfl) ?_)
  intro a32 hF33; clear hF30
  refine wpList_nil ?_
  refine hK22 _ _ ?_
  clear hK22
  rcases Bool.eq_false_or_eq_true (few n l) with hc34 | hc34
  · skip
    refine wp_cond_false (c_false hF33 rfl (not_t hc34)) ?_
    refine wp_skip ?_
    refine hK21 _ _ ?_
    clear hK21
    refine wp_seq_k (fun K35 hK35 => ?_)
    have hfw : n ≤ 8 ∧ l.length ≤ 30 := of_decide_eq_true (show decide _ = true from hc34)
    refine wp_region_lit ?_
    have b36 : Blk w27 g2 24 [(.int .i64 n), (.slice A l.length c)] := (b23.ext hx28)
    refine wpl_op (i := 0) rfl (o_val (v := (.agg #[(.int .i64 n), (.slice A l.length c)])) hF33 rfl rfl rfl rfl (rn_loadBlk (hF33.get rfl) b36 Try.underlying24 rfl (by kernel_rfl : (Try.prog.info? 24).map (·.size) = some 2)) ?_)
    intro a37 hF38; clear hF33
    have d39 := (((hc.ext hx5).ext hx15).ext hx28)
    refine wpl_op (i := 1) rfl (o_call hF38 rfl rfl rfl rfl (rn_call (args1 (hF38.get rfl)) rfl (by kernel_rfl)) (far_at (v := (.slice A l.length c)) n l _ d39 (fun _ => ⟨by omega, by omega⟩)) ?_)
    rintro _ w54 ⟨A40, m41, c42, t43, B44, k45, c46, cyc47, er48, rfl, ht49, hf50, hfar51, hx55⟩
    have z52 := RIss.len ht49
    have z53 := Fl.ilen hf50
    refine ⟨_, rfl, ?_⟩; intro a56 hF57; clear hF38; have z58 := hx55.size
    have hf59 : RIss (Clip (fun b => w27.heap.size ≤ b) w54) w54 (.slice A40 m41 c42) t43 := ht49.clip
    have hf60 : Fl (Clip (fun b => w27.heap.size ≤ b) w54) w54 1 (.slice B44 k45 c46) k45 (intVals cyc47) := hf50.clip
    refine wpl_op (i := 2) rfl (o_val (v := (.tuple #[(.slice A40 m41 c42), (.slice B44 k45 c46), (.int .i64 er48)])) hF57 rfl rfl rfl rfl (rn_move (hF57.get rfl)) ?_)
    intro a61 hF62; clear hF57
    refine wpl_op (i := 3) rfl (o_val (v := (.slice A40 m41 c42)) hF62 rfl rfl rfl rfl (rn_extract (hF62.get rfl) rfl) ?_)
    intro a63 hF64; clear hF62
    refine wpl_op (i := 4) rfl (o_val (v := (.slice B44 k45 c46)) hF64 rfl rfl rfl rfl (rn_extract (hF64.get rfl) rfl) ?_)
    intro a65 hF66; clear hF64
    refine wpl_op (i := 5) rfl (o_val (v := (.int .i64 er48)) hF66 rfl rfl rfl rfl (rn_extract (hF66.get rfl) rfl) ?_)
    intro a67 hF68; clear hF66
    refine wpl_op (i := 6) rfl (o_val (v := (.slice A40 m41 c42)) hF68 rfl rfl rfl rfl (rn_assign (hF68.get rfl)) ?_)
    intro a69 hF70; clear hF68
    refine wpl_op (i := 7) rfl (o_val (v := (.slice B44 k45 c46)) hF70 rfl rfl rfl rfl (rn_assign (hF70.get rfl)) ?_)
    intro a71 hF72; clear hF70
    refine wpl_op (i := 8) rfl (o_val (v := (.int .i64 er48)) hF72 rfl rfl rfl rfl (rn_assign (hF72.get rfl)) ?_)
    intro a73 hF74; clear hF72
    refine wpList_nil ?_
    refine hK35 _ _ ?_
    clear hK35
    have hF75 := (((((((hF74.nil.cons (hF74.get (t := 5) (v := (.int .i64 er48)) rfl)).cons (hF74.get (t := 3) (v := (.slice A40 m41 c42)) rfl)).cons (hF74.get (t := 15) (v := (.bool (!(few n l)))) rfl)).cons (hF74.get (t := 12) (v := (.bool false)) rfl)).cons (hF74.get (t := 2) (v := (.bool false)) rfl)).cons (hF74.get (t := 1) (v := (.pointer (some ⟨g2, 0, none⟩))) rfl)).cons (hF74.get (t := 0) (v := (.agg #[(.int .i64 n), (.slice A l.length c)])) rfl))
    clear hF74
    refine wp_seq_k (fun K76 hK76 => ?_)
    refine wp_seq_k (fun K77 hK77 => ?_)
    refine wp_region_lit ?_
    refine wpl_op (i := 0) rfl (o_val (v := (.int .i64 er48)) hF75 rfl rfl rfl rfl (rn_move (hF75.get rfl)) ?_)
    intro a78 hF79; clear hF75
    refine wpl_op (i := 1) rfl (o_val (v := (.bool (decide ((er48 : Int) ≠ (0 : Int))))) hF79 rfl rfl rfl rfl (rn_neq (hF79.get rfl) rfl) ?_)
    intro a80 hF81; clear hF79
    refine wpList_nil ?_
    refine hK77 _ _ ?_
    clear hK77
    by_cases hc82 : (er48 : Int) ≠ (0 : Int)
    · skip
      refine wp_cond_true (c_true hF81 rfl (decide_eq_true hc82)) ?_
      refine wp_seq_k (fun K83 hK83 => ?_)
      have hnt := (hfar51.1.not (by omega)).1
      have hnt2 : t43.length = 0 := by rw [hnt]; rfl
      refine wp_region_lit ?_
      refine wpl_op (i := 0) rfl (o_val (v := (.slice A40 m41 c42)) hF81 rfl rfl rfl rfl (rn_move (hF81.get rfl)) ?_)
      intro a84 hF85; clear hF81
      refine wpl_op (i := 1) rfl (o_val (v := (.int .i64 (m41 : Nat))) hF85 rfl rfl rfl rfl (rn_len_slice Try.underlying33 (hF85.get rfl)) ?_)
      intro a86 hF87; clear hF85
      refine wpl_op (i := 2) rfl (o_val (v := (.bool (decide (((m41 : Nat) : Int) = (0 : Int))))) hF87 rfl rfl rfl rfl (rn_eql (hF87.get rfl) rfl) ?_)
      intro a88 hF89; clear hF87
      refine wpl_op (i := 3) rfl (o_val (v := (.bool (decide (((m41 : Nat) : Int) = (0 : Int))))) hF89 rfl rfl rfl rfl (rn_assign (hF89.get rfl)) ?_)
      intro a90 hF91; clear hF89
      refine wpList_nil ?_
      refine hK83 _ _ ?_
      clear hK83
      have hF92 := ((((((((hF91.nil.cons (hF91.get (t := 23) (v := (.bool (decide ((er48 : Int) ≠ (0 : Int))))) rfl)).cons (hF91.get (t := 5) (v := (.int .i64 er48)) rfl)).cons (hF91.get (t := 3) (v := (.slice A40 m41 c42)) rfl)).cons (hF91.get (t := 15) (v := (.bool (!(few n l)))) rfl)).cons (hF91.get (t := 12) (v := (.bool false)) rfl)).cons (hF91.get (t := 2) (v := (.bool (decide (((m41 : Nat) : Int) = (0 : Int))))) rfl)).cons (hF91.get (t := 1) (v := (.pointer (some ⟨g2, 0, none⟩))) rfl)).cons (hF91.get (t := 0) (v := (.agg #[(.int .i64 n), (.slice A l.length c)])) rfl))
      clear hF91
      refine wp_ret ?_
      refine ret_then ?_
      refine ret1 hF92 rfl rfl ?_
      exact ⟨by rw [show (decide (((m41 : Nat) : Int) = (0 : Int))) = true from decide_eq_true (by omega)], (((((Ext.refl w).trans hx5).trans hx15).trans hx28).trans hx55)⟩
    · skip
      refine wp_cond_false (c_false hF81 rfl (decide_eq_false hc82)) ?_
      refine wp_skip ?_
      refine hK76 _ _ ?_
      clear hK76
      refine wp_seq_k (fun K93 hK93 => ?_)
      refine wp_seq_k (fun K94 hK94 => ?_)
      obtain ⟨hvo, hng, hdt⟩ := hfar51.1.zero (by omega)
      have hn1 := vOk_n hvo
      have htl := hdt.len
      refine wp_region_lit ?_
      refine wpl_op (i := 0) rfl (o_val (v := (.slice A40 m41 c42)) hF81 rfl rfl rfl rfl (rn_move (hF81.get rfl)) ?_)
      intro a95 hF96; clear hF81
      refine wpl_op (i := 1) rfl (o_val (v := (.pointer (some ⟨g2, 0, none⟩))) hF96 rfl rfl rfl rfl (rn_field Try.underlying24 rfl (by kernel_rfl) (hF96.get rfl) rfl) ?_)
      intro a97 hF98; clear hF96
      have b99 : Blk w54 g2 24 [(.int .i64 n), (.slice A l.length c)] := (b36.ext hx55)
      refine wpl_op (i := 2) rfl (o_val (v := (.int .i64 n)) hF98 rfl rfl rfl rfl (rn_load (isAgg_no Try.underlying3 rfl) (hF98.get rfl) (b99.rule.1 0)) ?_)
      intro a100 hF101; clear hF98
      refine wpl_op (i := 3) rfl (o_call hF101 rfl rfl rfl rfl (rn_call (args2 (hF101.get rfl) (hF101.get rfl)) rfl (by kernel_rfl)) (table_at (u := (.slice A40 m41 c42)) n t43 _ hf59 (by omega) hdt.len hdt.row) ?_)
      rintro _ w102 ⟨rfl, hx103⟩
      refine ⟨_, rfl, ?_⟩; intro a104 hF105; clear hF101; have z106 := hx103.size
      refine wpl_op (i := 4) rfl (o_val (v := (.bool false)) hF105 rfl rfl rfl rfl (rn_not' (hF105.get rfl) rfl) ?_)
      intro a107 hF108; clear hF105
      refine wpList_nil ?_
      refine hK94 _ _ ?_
      clear hK94
      have hF109 := (((((((((hF108.nil.cons (hF108.get (t := 31) (v := (.bool false)) rfl)).cons (hF108.get (t := 23) (v := (.bool (decide ((er48 : Int) ≠ (0 : Int))))) rfl)).cons (hF108.get (t := 5) (v := (.int .i64 er48)) rfl)).cons (hF108.get (t := 3) (v := (.slice A40 m41 c42)) rfl)).cons (hF108.get (t := 15) (v := (.bool (!(few n l)))) rfl)).cons (hF108.get (t := 12) (v := (.bool false)) rfl)).cons (hF108.get (t := 2) (v := (.bool false)) rfl)).cons (hF108.get (t := 1) (v := (.pointer (some ⟨g2, 0, none⟩))) rfl)).cons (hF108.get (t := 0) (v := (.agg #[(.int .i64 n), (.slice A l.length c)])) rfl))
      clear hF108
      refine wp_cond_false (c_false hF109 rfl rfl) ?_
      refine wp_skip ?_
      refine hK93 _ _ ?_
      clear hK93
      refine wp_seq_k (fun K110 hK110 => ?_)
      refine wp_seq_k (fun K111 hK111 => ?_)
      refine wp_region_lit ?_
      refine wpl_op (i := 0) rfl (o_val (v := (.pointer (some ⟨g2, 1, none⟩))) hF109 rfl rfl rfl rfl (rn_field Try.underlying24 rfl (by kernel_rfl) (hF109.get rfl) rfl) ?_)
      intro a112 hF113; clear hF109
      have b114 : Blk w102 g2 24 [(.int .i64 n), (.slice A l.length c)] := (b99.ext hx103)
      refine wpl_op (i := 1) rfl (o_val (v := (.slice A l.length c)) hF113 rfl rfl rfl rfl (rn_load (isAgg_no Try.underlying22 rfl) (hF113.get rfl) (b114.rule.1 1)) ?_)
      intro a115 hF116; clear hF113
      refine wpl_op (i := 2) rfl (o_val (v := (.int .i64 (l.length : Nat))) hF116 rfl rfl rfl rfl (rn_len_slice Try.underlying22 (hF116.get rfl)) ?_)
      intro a117 hF118; clear hF116
      refine wpl_op (i := 3) rfl (o_val (v := (.int .i64 0)) hF118 rfl rfl rfl rfl (rn_move rfl) ?_)
      intro a119 hF120; clear hF118
      refine wpList_nil ?_
      refine hK111 _ _ ?_
      clear hK111
      refine wp_block ?_
      have d121 := (hf59.ext hx103)
      refine wp_loop (fun a' W => ∃ (k : Nat), Sl 145 [(0, (.agg #[(.int .i64 n), (.slice A l.length c)])), (1, (.pointer (some ⟨g2, 0, none⟩))), (2, (.bool false)), (12, (.bool false)), (15, (.bool (!(few n l)))), (3, (.slice A40 m41 c42)), (5, (.int .i64 er48)), (23, (.bool (decide ((er48 : Int) ≠ (0 : Int))))), (31, (.bool false)), (33, (.slice A l.length c)), (34, (.int .i64 (l.length : Nat))), (35, (.int .i64 (k : Nat)))] a' ∧ k ≤ l.length ∧ Ext w W ∧ Blk W g2 24 [(.int .i64 n), (.slice A l.length c)] ∧ RIss (Clip (fun b => w27.heap.size ≤ b) w54) W (.slice A40 m41 c42) t43 ∧ w102.heap.size ≤ W.heap.size) (fun a' _ => l.length - (intOf (a'.eval (.tmp 35))).toNat) ⟨0, ((((((((((((hF120.nil.cons (q_get hF120 (t := 35) rfl (by first | rfl | (congr 1; omega) | (congr 1; done)))).cons (q_get hF120 (t := 34) rfl rfl)).cons (q_get hF120 (t := 33) rfl rfl)).cons (q_get hF120 (t := 31) rfl rfl)).cons (q_get hF120 (t := 23) rfl rfl)).cons (q_get hF120 (t := 5) rfl rfl)).cons (q_get hF120 (t := 3) rfl rfl)).cons (q_get hF120 (t := 15) rfl rfl)).cons (q_get hF120 (t := 12) rfl rfl)).cons (q_get hF120 (t := 2) rfl rfl)).cons (q_get hF120 (t := 1) rfl rfl)).cons (q_get hF120 (t := 0) rfl rfl)), (by omega), ((((((Ext.refl w).trans hx5).trans hx15).trans hx28).trans hx55).trans hx103), b114, d121, (Nat.le_refl _)⟩ ?_
      clear hF120
      rintro a122 w123 ⟨k, hF124, hp126, hx125, b127, hf128, hf129⟩
      have hL130 := hF124
      have z131 := hx125.size
      have z132 := b127.lt
      refine wp_seq_k (fun K133 hK133 => ?_)
      refine wp_region_lit ?_
      refine wpl_op (i := 0) rfl (o_val (v := (.bool (decide (((k : Nat) : Int) < ((l.length : Nat) : Int))))) hF124 rfl rfl rfl rfl (rn_lss (hF124.get rfl) (hF124.get rfl)) ?_)
      intro a134 hF135; clear hF124
      refine wpList_nil ?_
      refine hK133 _ _ ?_
      clear hK133
      refine wp_seq_k (fun K136 hK136 => ?_)
      by_cases hc137 : ((k : Nat) : Int) < ((l.length : Nat) : Int)
      · skip
        refine wp_cond_true (c_true hF135 rfl (decide_eq_true hc137)) ?_
        refine wp_skip ?_
        refine hK136 _ _ ?_
        clear hK136
        refine wp_seq_k (fun K138 hK138 => ?_)
        refine wp_block ?_
        refine wp_seq_k (fun K139 hK139 => ?_)
        have hxo := vOk_at hvo (show k < l.length by omega)
        have hed := hdt.edge hvo (show k < l.length by omega)
        refine wp_region_lit ?_
        have d143 := (hc.ext hx125)
        obtain ⟨b140, o141, hA142, -⟩ := Fl.at d143 (by omega)
        refine wpl_op (i := 0) rfl (o_val (v := (.pointer (some ⟨b140, o141 + k * 3, none⟩))) hF135 rfl rfl rfl rfl (rn_indexE Try.underlying22 (by kernel_rfl : (Try.prog.info? 41).map (·.size) = some 3) ((hF135.get rfl).trans (by rw [hA142])) (hF135.get rfl) (by omega : (0 : Int) ≤ (k : Nat)) (by omega : ((k : Nat) : Int) < ((l.length : Nat) : Int)) (by omega)) ?_)
        intro a144 hF145; clear hF135
        refine wpl_op (i := 1) rfl (o_val (v := (.agg #[(.int .i64 ((l.getD k default).a)), (.int .i64 ((l.getD k default).b)), (.int .i64 ((l.getD k default).w))])) hF145 rfl rfl rfl rfl (rn_loadN (cs := [(.int .i64 ((l.getD k default).a)), (.int .i64 ((l.getD k default).b)), (.int .i64 ((l.getD k default).w))]) (hF145.get rfl) Try.underlying41 rfl (by kernel_rfl : (Try.prog.info? 41).map (·.size) = some 3) (Fl.recAt edCells_k d143 hA142 (by omega))) ?_)
        intro a146 hF147; clear hF145
        refine wpl_op (i := 2) rfl (o_new (fun g => (.pointer (some ⟨g, 0, none⟩))) [(.int .i64 0), (.int .i64 0), (.int .i64 0)] 41 hF147 rfl rfl rfl rfl (by kernel_rfl) ?_)
        intro g148 w149 a154 hF155 z152 z153 b150 hx151; clear hF147
        refine wpl_op (i := 3) rfl (o_store (cells := [(.int .i64 ((l.getD k default).a)), (.int .i64 ((l.getD k default).b)), (.int .i64 ((l.getD k default).w))]) hF155 rfl rfl rfl rfl (hF155.get rfl) (hF155.get rfl) b150 (by kernel_rfl : (Try.prog.info? 41).map (·.size) = some 3) rfl (by simp [Value.oneCell']) ?_)
        intro w156 b157 hg158; have z159 := hg158.size
        refine wpList_nil ?_
        refine hK139 _ _ ?_
        clear hK139
        refine wp_seq_k (fun K160 hK160 => ?_)
        have hx162 : ∃ W, w156.drew = W ∧ Ext w156 W := ⟨_, rfl, (Ext.refl _).drew⟩
        obtain ⟨w161, e163, hx162⟩ := hx162
        have z164 := hx162.size
        refine any_start (fun W => Ext w161 W ∧ Blk W g148 41 [(.int .i64 ((l.getD k default).a)), (.int .i64 ((l.getD k default).b)), (.int .i64 ((l.getD k default).w))]) (fun i => false) 36 #[false, false, false, false, false, false, false, false, false, false, false, false, false, false, false, false, false, false, false, false, false, false, false, false, false, false, false, false, false, false, false, false, false, false, false, false] rfl rfl rfl ?_
        rw [e163]; clear e163
        refine any_pure (i := 0) (v := (.pointer (some ⟨g148, 0, none⟩))) hF155 (by decide +kernel) (by decide +kernel) rfl rfl rfl rfl (fun _ _ _ _ h => h) rfl (fun W => (rn_field Try.underlying41 rfl (by kernel_rfl) (hF155.get rfl) rfl)) ?_
        intro a165 hF166; clear hF155
        have b168 : Blk w161 g148 41 [(.int .i64 ((l.getD k default).a)), (.int .i64 ((l.getD k default).b)), (.int .i64 ((l.getD k default).w))] := (b157.ext hx162)
        have hS167 : Ext w161 w161 ∧ Blk w161 g148 41 [(.int .i64 ((l.getD k default).a)), (.int .i64 ((l.getD k default).b)), (.int .i64 ((l.getD k default).w))] := ⟨(Ext.refl w161), b168⟩
        refine any_val (i := 1) (v := (.int .i64 ((l.getD k default).a))) hF166 (by decide +kernel) (by decide +kernel) rfl rfl rfl rfl (fun _ _ _ _ h => h) rfl hS167 (fun W hW => (rn_load (isAgg_no Try.underlying3 rfl) (hF166.get rfl) (hW.2.rule.1 0))) ?_
        intro a169 hF170; clear hF166
        refine any_pure (i := 2) (v := (.bool (decide (((l.getD k default).a : Int) < (0 : Int))))) hF170 (by decide +kernel) (by decide +kernel) rfl rfl rfl rfl (fun _ _ _ _ h => h) rfl (fun W => (rn_lss (hF170.get rfl) rfl)) ?_
        intro a171 hF172; clear hF170
        refine any_pure (i := 3) (v := (.bool (decide (((l.getD k default).a : Int) < (0 : Int))))) hF172 (by decide +kernel) (by decide +kernel) rfl rfl rfl rfl (fun _ _ _ _ h => h) rfl (fun W => (rn_move (hF172.get rfl))) ?_
        intro a173 hF174; clear hF172
        by_cases hc175 : ((l.getD k default).a : Int) < (0 : Int)
        · skip
          refine any_pass (i := 4) hF174 (by decide +kernel) (by decide +kernel) rfl rfl rfl rfl (fun _ _ _ _ h => h) (unwanted_guard rfl rfl rfl hF174 rfl (decide_eq_true hc175) rfl) ?_
          intro a176 hF177; clear hF174
          refine any_pass (i := 5) hF177 (by decide +kernel) (by decide +kernel) rfl rfl rfl rfl (fun _ _ _ _ h => h) (unwanted_guard rfl rfl rfl hF177 rfl (decide_eq_true hc175) rfl) ?_
          intro a178 hF179; clear hF177
          refine any_pass (i := 6) hF179 (by decide +kernel) (by decide +kernel) rfl rfl rfl rfl (fun _ _ _ _ h => h) (unwanted_guard rfl rfl rfl hF179 rfl (decide_eq_true hc175) rfl) ?_
          intro a180 hF181; clear hF179
          refine any_pass (i := 7) hF181 (by decide +kernel) (by decide +kernel) rfl rfl rfl rfl (fun _ _ _ _ h => h) (unwanted_guard rfl rfl rfl hF181 rfl (decide_eq_true hc175) rfl) ?_
          intro a182 hF183; clear hF181
          refine any_pass (i := 8) hF183 (by decide +kernel) (by decide +kernel) rfl rfl rfl rfl (fun _ _ _ _ h => h) (unwanted_guard rfl rfl rfl hF183 rfl (decide_eq_true hc175) rfl) ?_
          intro a184 hF185; clear hF183
          refine any_pure (i := 9) (v := (.bool true)) hF185 (by decide +kernel) (by decide +kernel) rfl rfl rfl rfl (fun _ _ _ _ h => h) rfl (fun W => (rn_pickT (c_true hF185 rfl (decide_eq_true hc175)) rfl)) ?_
          intro a186 hF187; clear hF185
          refine any_pure (i := 10) (v := (.bool true)) hF187 (by decide +kernel) (by decide +kernel) rfl rfl rfl rfl (fun _ _ _ _ h => h) rfl (fun W => (rn_move (hF187.get rfl))) ?_
          intro a188 hF189; clear hF187
          refine any_pass (i := 11) hF189 (by decide +kernel) (by decide +kernel) rfl rfl rfl rfl (fun _ _ _ _ h => h) (unwanted_guard rfl rfl rfl hF189 rfl rfl rfl) ?_
          intro a190 hF191; clear hF189
          refine any_pass (i := 12) hF191 (by decide +kernel) (by decide +kernel) rfl rfl rfl rfl (fun _ _ _ _ h => h) (unwanted_guard rfl rfl rfl hF191 rfl rfl rfl) ?_
          intro a192 hF193; clear hF191
          refine any_pass (i := 13) hF193 (by decide +kernel) (by decide +kernel) rfl rfl rfl rfl (fun _ _ _ _ h => h) (unwanted_guard rfl rfl rfl hF193 rfl rfl rfl) ?_
          intro a194 hF195; clear hF193
          refine any_pure (i := 14) (v := (.bool true)) hF195 (by decide +kernel) (by decide +kernel) rfl rfl rfl rfl (fun _ _ _ _ h => h) rfl (fun W => (rn_pickT (c_true hF195 rfl rfl) rfl)) ?_
          intro a196 hF197; clear hF195
          refine any_pure (i := 15) (v := (.bool true)) hF197 (by decide +kernel) (by decide +kernel) rfl rfl rfl rfl (fun _ _ _ _ h => h) rfl (fun W => (rn_move (hF197.get rfl))) ?_
          intro a198 hF199; clear hF197
          refine any_pass (i := 16) hF199 (by decide +kernel) (by decide +kernel) rfl rfl rfl rfl (fun _ _ _ _ h => h) (unwanted_guard rfl rfl rfl hF199 rfl rfl rfl) ?_
          intro a200 hF201; clear hF199
          refine any_pass (i := 17) hF201 (by decide +kernel) (by decide +kernel) rfl rfl rfl rfl (fun _ _ _ _ h => h) (unwanted_guard rfl rfl rfl hF201 rfl rfl rfl) ?_
          intro a202 hF203; clear hF201
          refine any_pass (i := 18) hF203 (by decide +kernel) (by decide +kernel) rfl rfl rfl rfl (fun _ _ _ _ h => h) (unwanted_guard rfl rfl rfl hF203 rfl rfl rfl) ?_
          intro a204 hF205; clear hF203
          refine any_pass (i := 19) hF205 (by decide +kernel) (by decide +kernel) rfl rfl rfl rfl (fun _ _ _ _ h => h) (unwanted_guard rfl rfl rfl hF205 rfl rfl rfl) ?_
          intro a206 hF207; clear hF205
          refine any_pass (i := 20) hF207 (by decide +kernel) (by decide +kernel) rfl rfl rfl rfl (fun _ _ _ _ h => h) (unwanted_guard rfl rfl rfl hF207 rfl rfl rfl) ?_
          intro a208 hF209; clear hF207
          refine any_pure (i := 21) (v := (.bool true)) hF209 (by decide +kernel) (by decide +kernel) rfl rfl rfl rfl (fun _ _ _ _ h => h) rfl (fun W => (rn_pickT (c_true hF209 rfl rfl) rfl)) ?_
          intro a210 hF211; clear hF209
          refine any_pure (i := 22) (v := (.bool true)) hF211 (by decide +kernel) (by decide +kernel) rfl rfl rfl rfl (fun _ _ _ _ h => h) rfl (fun W => (rn_move (hF211.get rfl))) ?_
          intro a212 hF213; clear hF211
          refine any_pass (i := 23) hF213 (by decide +kernel) (by decide +kernel) rfl rfl rfl rfl (fun _ _ _ _ h => h) (unwanted_guard rfl rfl rfl hF213 rfl rfl rfl) ?_
          intro a214 hF215; clear hF213
          refine any_pass (i := 24) hF215 (by decide +kernel) (by decide +kernel) rfl rfl rfl rfl (fun _ _ _ _ h => h) (unwanted_guard rfl rfl rfl hF215 rfl rfl rfl) ?_
          intro a216 hF217; clear hF215
          refine any_pass (i := 25) hF217 (by decide +kernel) (by decide +kernel) rfl rfl rfl rfl (fun _ _ _ _ h => h) (unwanted_guard rfl rfl rfl hF217 rfl rfl rfl) ?_
          intro a218 hF219; clear hF217
          refine any_pass (i := 26) hF219 (by decide +kernel) (by decide +kernel) rfl rfl rfl rfl (fun _ _ _ _ h => h) (unwanted_guard rfl rfl rfl hF219 rfl rfl rfl) ?_
          intro a220 hF221; clear hF219
          refine any_pass (i := 27) hF221 (by decide +kernel) (by decide +kernel) rfl rfl rfl rfl (fun _ _ _ _ h => h) (unwanted_guard rfl rfl rfl hF221 rfl rfl rfl) ?_
          intro a222 hF223; clear hF221
          refine any_pass (i := 28) hF223 (by decide +kernel) (by decide +kernel) rfl rfl rfl rfl (fun _ _ _ _ h => h) (unwanted_guard rfl rfl rfl hF223 rfl rfl rfl) ?_
          intro a224 hF225; clear hF223
          refine any_pass (i := 29) hF225 (by decide +kernel) (by decide +kernel) rfl rfl rfl rfl (fun _ _ _ _ h => h) (unwanted_guard rfl rfl rfl hF225 rfl rfl rfl) ?_
          intro a226 hF227; clear hF225
          refine any_pass (i := 30) hF227 (by decide +kernel) (by decide +kernel) rfl rfl rfl rfl (fun _ _ _ _ h => h) (unwanted_guard rfl rfl rfl hF227 rfl rfl rfl) ?_
          intro a228 hF229; clear hF227
          refine any_pass (i := 31) hF229 (by decide +kernel) (by decide +kernel) rfl rfl rfl rfl (fun _ _ _ _ h => h) (unwanted_guard rfl rfl rfl hF229 rfl rfl rfl) ?_
          intro a230 hF231; clear hF229
          refine any_pass (i := 32) hF231 (by decide +kernel) (by decide +kernel) rfl rfl rfl rfl (fun _ _ _ _ h => h) (unwanted_guard rfl rfl rfl hF231 rfl rfl rfl) ?_
          intro a232 hF233; clear hF231
          refine any_pass (i := 33) hF233 (by decide +kernel) (by decide +kernel) rfl rfl rfl rfl (fun _ _ _ _ h => h) (unwanted_guard rfl rfl rfl hF233 rfl rfl rfl) ?_
          intro a234 hF235; clear hF233
          refine any_pass (i := 34) hF235 (by decide +kernel) (by decide +kernel) rfl rfl rfl rfl (fun _ _ _ _ h => h) (unwanted_guard rfl rfl rfl hF235 rfl rfl rfl) ?_
          intro a236 hF237; clear hF235
          refine any_pure (i := 35) (v := (.bool true)) hF237 (by decide +kernel) (by decide +kernel) rfl rfl rfl rfl (fun _ _ _ _ h => h) rfl (fun W => (rn_pickT (c_true hF237 rfl rfl) rfl)) ?_
          intro a238 hF239; clear hF237
          refine any_nil (by decide +kernel) ?_
          refine hK160 _ _ ?_
          clear hK160
          have hF240 := (((((((((((((((hF239.nil.cons (hF239.get (t := 74) (v := (.bool true)) rfl)).cons (hF239.get (t := 7) (v := (.pointer (some ⟨g148, 0, none⟩))) rfl)).cons (hF239.get (t := 36) (v := (.bool (decide (((k : Nat) : Int) < ((l.length : Nat) : Int))))) rfl)).cons (hF239.get (t := 35) (v := (.int .i64 (k : Nat))) rfl)).cons (hF239.get (t := 34) (v := (.int .i64 (l.length : Nat))) rfl)).cons (hF239.get (t := 33) (v := (.slice A l.length c)) rfl)).cons (hF239.get (t := 31) (v := (.bool false)) rfl)).cons (hF239.get (t := 23) (v := (.bool (decide ((er48 : Int) ≠ (0 : Int))))) rfl)).cons (hF239.get (t := 5) (v := (.int .i64 er48)) rfl)).cons (hF239.get (t := 3) (v := (.slice A40 m41 c42)) rfl)).cons (hF239.get (t := 15) (v := (.bool (!(few n l)))) rfl)).cons (hF239.get (t := 12) (v := (.bool false)) rfl)).cons (hF239.get (t := 2) (v := (.bool false)) rfl)).cons (hF239.get (t := 1) (v := (.pointer (some ⟨g2, 0, none⟩))) rfl)).cons (hF239.get (t := 0) (v := (.agg #[(.int .i64 n), (.slice A l.length c)])) rfl))
          clear hF239
          refine wp_cond_true (c_true hF240 rfl rfl) ?_
          refine wp_seq_k (fun K241 hK241 => ?_)
          refine wp_region_lit ?_
          refine wpl_op (i := 0) rfl (o_val (v := (.bool false)) hF240 rfl rfl rfl rfl (rn_assign rfl) ?_)
          intro a242 hF243; clear hF240
          refine wpList_nil ?_
          refine hK241 _ _ ?_
          clear hK241
          refine wp_ret ?_
          refine ret_block ?_
          refine ret_then ?_
          refine ret_then ?_
          refine ret_block ?_
          refine ret_then ?_
          refine ret1 hF243 rfl rfl ?_
          exfalso; omega
        · skip
          refine any_pure (i := 4) (v := (.pointer (some ⟨g148, 0, none⟩))) hF174 (by decide +kernel) (by decide +kernel) rfl rfl rfl rfl (fun _ _ _ _ h => h) (wanted_guard rfl rfl rfl hF174 rfl (decide_eq_false hc175) rfl) (fun W => (rn_field Try.underlying41 rfl (by kernel_rfl) (hF174.get rfl) rfl)) ?_
          intro a244 hF245; clear hF174
          refine any_val (i := 5) (v := (.int .i64 ((l.getD k default).a))) hF245 (by decide +kernel) (by decide +kernel) rfl rfl rfl rfl (fun _ _ _ _ h => h) (wanted_guard rfl rfl rfl hF245 rfl (decide_eq_false hc175) rfl) hS167 (fun W hW => (rn_load (isAgg_no Try.underlying3 rfl) (hF245.get rfl) (hW.2.rule.1 0))) ?_
          intro a246 hF247; clear hF245
          refine any_pure (i := 6) (v := (.slice A40 m41 c42)) hF247 (by decide +kernel) (by decide +kernel) rfl rfl rfl rfl (fun _ _ _ _ h => h) (wanted_guard rfl rfl rfl hF247 rfl (decide_eq_false hc175) rfl) (fun W => (rn_move (hF247.get rfl))) ?_
          intro a248 hF249; clear hF247
          refine any_pure (i := 7) (v := (.int .i64 (m41 : Nat))) hF249 (by decide +kernel) (by decide +kernel) rfl rfl rfl rfl (fun _ _ _ _ h => h) (wanted_guard rfl rfl rfl hF249 rfl (decide_eq_false hc175) rfl) (fun W => (rn_len_slice Try.underlying33 (hF249.get rfl))) ?_
          intro a250 hF251; clear hF249
          refine any_pure (i := 8) (v := (.bool (decide (((m41 : Nat) : Int) ≤ ((l.getD k default).a : Int))))) hF251 (by decide +kernel) (by decide +kernel) rfl rfl rfl rfl (fun _ _ _ _ h => h) (wanted_guard rfl rfl rfl hF251 rfl (decide_eq_false hc175) rfl) (fun W => (rn_geq (hF251.get rfl) (hF251.get rfl))) ?_
          intro a252 hF253; clear hF251
          refine any_pure (i := 9) (v := (.bool (decide (((m41 : Nat) : Int) ≤ ((l.getD k default).a : Int))))) hF253 (by decide +kernel) (by decide +kernel) rfl rfl rfl rfl (fun _ _ _ _ h => h) rfl (fun W => (rn_pickF (c_false hF253 rfl (decide_eq_false hc175)) (hF253.get rfl))) ?_
          intro a254 hF255; clear hF253
          refine any_pure (i := 10) (v := (.bool (decide (((m41 : Nat) : Int) ≤ ((l.getD k default).a : Int))))) hF255 (by decide +kernel) (by decide +kernel) rfl rfl rfl rfl (fun _ _ _ _ h => h) rfl (fun W => (rn_move (hF255.get rfl))) ?_
          intro a256 hF257; clear hF255
          by_cases hc258 : ((m41 : Nat) : Int) ≤ ((l.getD k default).a : Int)
          · skip
            refine any_pass (i := 11) hF257 (by decide +kernel) (by decide +kernel) rfl rfl rfl rfl (fun _ _ _ _ h => h) (unwanted_guard rfl rfl rfl hF257 rfl (decide_eq_true hc258) rfl) ?_
            intro a259 hF260; clear hF257
            refine any_pass (i := 12) hF260 (by decide +kernel) (by decide +kernel) rfl rfl rfl rfl (fun _ _ _ _ h => h) (unwanted_guard rfl rfl rfl hF260 rfl (decide_eq_true hc258) rfl) ?_
            intro a261 hF262; clear hF260
            refine any_pass (i := 13) hF262 (by decide +kernel) (by decide +kernel) rfl rfl rfl rfl (fun _ _ _ _ h => h) (unwanted_guard rfl rfl rfl hF262 rfl (decide_eq_true hc258) rfl) ?_
            intro a263 hF264; clear hF262
            refine any_pure (i := 14) (v := (.bool true)) hF264 (by decide +kernel) (by decide +kernel) rfl rfl rfl rfl (fun _ _ _ _ h => h) rfl (fun W => (rn_pickT (c_true hF264 rfl (decide_eq_true hc258)) rfl)) ?_
            intro a265 hF266; clear hF264
            refine any_pure (i := 15) (v := (.bool true)) hF266 (by decide +kernel) (by decide +kernel) rfl rfl rfl rfl (fun _ _ _ _ h => h) rfl (fun W => (rn_move (hF266.get rfl))) ?_
            intro a267 hF268; clear hF266
            refine any_pass (i := 16) hF268 (by decide +kernel) (by decide +kernel) rfl rfl rfl rfl (fun _ _ _ _ h => h) (unwanted_guard rfl rfl rfl hF268 rfl rfl rfl) ?_
            intro a269 hF270; clear hF268
            refine any_pass (i := 17) hF270 (by decide +kernel) (by decide +kernel) rfl rfl rfl rfl (fun _ _ _ _ h => h) (unwanted_guard rfl rfl rfl hF270 rfl rfl rfl) ?_
            intro a271 hF272; clear hF270
            refine any_pass (i := 18) hF272 (by decide +kernel) (by decide +kernel) rfl rfl rfl rfl (fun _ _ _ _ h => h) (unwanted_guard rfl rfl rfl hF272 rfl rfl rfl) ?_
            intro a273 hF274; clear hF272
            refine any_pass (i := 19) hF274 (by decide +kernel) (by decide +kernel) rfl rfl rfl rfl (fun _ _ _ _ h => h) (unwanted_guard rfl rfl rfl hF274 rfl rfl rfl) ?_
            intro a275 hF276; clear hF274
            refine any_pass (i := 20) hF276 (by decide +kernel) (by decide +kernel) rfl rfl rfl rfl (fun _ _ _ _ h => h) (unwanted_guard rfl rfl rfl hF276 rfl rfl rfl) ?_
            intro a277 hF278; clear hF276
            refine any_pure (i := 21) (v := (.bool true)) hF278 (by decide +kernel) (by decide +kernel) rfl rfl rfl rfl (fun _ _ _ _ h => h) rfl (fun W => (rn_pickT (c_true hF278 rfl rfl) rfl)) ?_
            intro a279 hF280; clear hF278
            refine any_pure (i := 22) (v := (.bool true)) hF280 (by decide +kernel) (by decide +kernel) rfl rfl rfl rfl (fun _ _ _ _ h => h) rfl (fun W => (rn_move (hF280.get rfl))) ?_
            intro a281 hF282; clear hF280
            refine any_pass (i := 23) hF282 (by decide +kernel) (by decide +kernel) rfl rfl rfl rfl (fun _ _ _ _ h => h) (unwanted_guard rfl rfl rfl hF282 rfl rfl rfl) ?_
            intro a283 hF284; clear hF282
            refine any_pass (i := 24) hF284 (by decide +kernel) (by decide +kernel) rfl rfl rfl rfl (fun _ _ _ _ h => h) (unwanted_guard rfl rfl rfl hF284 rfl rfl rfl) ?_
            intro a285 hF286; clear hF284
            refine any_pass (i := 25) hF286 (by decide +kernel) (by decide +kernel) rfl rfl rfl rfl (fun _ _ _ _ h => h) (unwanted_guard rfl rfl rfl hF286 rfl rfl rfl) ?_
            intro a287 hF288; clear hF286
            refine any_pass (i := 26) hF288 (by decide +kernel) (by decide +kernel) rfl rfl rfl rfl (fun _ _ _ _ h => h) (unwanted_guard rfl rfl rfl hF288 rfl rfl rfl) ?_
            intro a289 hF290; clear hF288
            refine any_pass (i := 27) hF290 (by decide +kernel) (by decide +kernel) rfl rfl rfl rfl (fun _ _ _ _ h => h) (unwanted_guard rfl rfl rfl hF290 rfl rfl rfl) ?_
            intro a291 hF292; clear hF290
            refine any_pass (i := 28) hF292 (by decide +kernel) (by decide +kernel) rfl rfl rfl rfl (fun _ _ _ _ h => h) (unwanted_guard rfl rfl rfl hF292 rfl rfl rfl) ?_
            intro a293 hF294; clear hF292
            refine any_pass (i := 29) hF294 (by decide +kernel) (by decide +kernel) rfl rfl rfl rfl (fun _ _ _ _ h => h) (unwanted_guard rfl rfl rfl hF294 rfl rfl rfl) ?_
            intro a295 hF296; clear hF294
            refine any_pass (i := 30) hF296 (by decide +kernel) (by decide +kernel) rfl rfl rfl rfl (fun _ _ _ _ h => h) (unwanted_guard rfl rfl rfl hF296 rfl rfl rfl) ?_
            intro a297 hF298; clear hF296
            refine any_pass (i := 31) hF298 (by decide +kernel) (by decide +kernel) rfl rfl rfl rfl (fun _ _ _ _ h => h) (unwanted_guard rfl rfl rfl hF298 rfl rfl rfl) ?_
            intro a299 hF300; clear hF298
            refine any_pass (i := 32) hF300 (by decide +kernel) (by decide +kernel) rfl rfl rfl rfl (fun _ _ _ _ h => h) (unwanted_guard rfl rfl rfl hF300 rfl rfl rfl) ?_
            intro a301 hF302; clear hF300
            refine any_pass (i := 33) hF302 (by decide +kernel) (by decide +kernel) rfl rfl rfl rfl (fun _ _ _ _ h => h) (unwanted_guard rfl rfl rfl hF302 rfl rfl rfl) ?_
            intro a303 hF304; clear hF302
            refine any_pass (i := 34) hF304 (by decide +kernel) (by decide +kernel) rfl rfl rfl rfl (fun _ _ _ _ h => h) (unwanted_guard rfl rfl rfl hF304 rfl rfl rfl) ?_
            intro a305 hF306; clear hF304
            refine any_pure (i := 35) (v := (.bool true)) hF306 (by decide +kernel) (by decide +kernel) rfl rfl rfl rfl (fun _ _ _ _ h => h) rfl (fun W => (rn_pickT (c_true hF306 rfl rfl) rfl)) ?_
            intro a307 hF308; clear hF306
            refine any_nil (by decide +kernel) ?_
            refine hK160 _ _ ?_
            clear hK160
            have hF309 := (((((((((((((((hF308.nil.cons (hF308.get (t := 74) (v := (.bool true)) rfl)).cons (hF308.get (t := 7) (v := (.pointer (some ⟨g148, 0, none⟩))) rfl)).cons (hF308.get (t := 36) (v := (.bool (decide (((k : Nat) : Int) < ((l.length : Nat) : Int))))) rfl)).cons (hF308.get (t := 35) (v := (.int .i64 (k : Nat))) rfl)).cons (hF308.get (t := 34) (v := (.int .i64 (l.length : Nat))) rfl)).cons (hF308.get (t := 33) (v := (.slice A l.length c)) rfl)).cons (hF308.get (t := 31) (v := (.bool false)) rfl)).cons (hF308.get (t := 23) (v := (.bool (decide ((er48 : Int) ≠ (0 : Int))))) rfl)).cons (hF308.get (t := 5) (v := (.int .i64 er48)) rfl)).cons (hF308.get (t := 3) (v := (.slice A40 m41 c42)) rfl)).cons (hF308.get (t := 15) (v := (.bool (!(few n l)))) rfl)).cons (hF308.get (t := 12) (v := (.bool false)) rfl)).cons (hF308.get (t := 2) (v := (.bool false)) rfl)).cons (hF308.get (t := 1) (v := (.pointer (some ⟨g2, 0, none⟩))) rfl)).cons (hF308.get (t := 0) (v := (.agg #[(.int .i64 n), (.slice A l.length c)])) rfl))
            clear hF308
            refine wp_cond_true (c_true hF309 rfl rfl) ?_
            refine wp_seq_k (fun K310 hK310 => ?_)
            refine wp_region_lit ?_
            refine wpl_op (i := 0) rfl (o_val (v := (.bool false)) hF309 rfl rfl rfl rfl (rn_assign rfl) ?_)
            intro a311 hF312; clear hF309
            refine wpList_nil ?_
            refine hK310 _ _ ?_
            clear hK310
            refine wp_ret ?_
            refine ret_block ?_
            refine ret_then ?_
            refine ret_then ?_
            refine ret_block ?_
            refine ret_then ?_
            refine ret1 hF312 rfl rfl ?_
            exfalso; omega
          · skip
            refine any_pure (i := 11) (v := (.pointer (some ⟨g148, 1, none⟩))) hF257 (by decide +kernel) (by decide +kernel) rfl rfl rfl rfl (fun _ _ _ _ h => h) (wanted_guard rfl rfl rfl hF257 rfl (decide_eq_false hc258) rfl) (fun W => (rn_field Try.underlying41 rfl (by kernel_rfl) (hF257.get rfl) rfl)) ?_
            intro a313 hF314; clear hF257
            refine any_val (i := 12) (v := (.int .i64 ((l.getD k default).b))) hF314 (by decide +kernel) (by decide +kernel) rfl rfl rfl rfl (fun _ _ _ _ h => h) (wanted_guard rfl rfl rfl hF314 rfl (decide_eq_false hc258) rfl) hS167 (fun W hW => (rn_load (isAgg_no Try.underlying3 rfl) (hF314.get rfl) (hW.2.rule.1 1))) ?_
            intro a315 hF316; clear hF314
            refine any_pure (i := 13) (v := (.bool (decide (((l.getD k default).b : Int) < (0 : Int))))) hF316 (by decide +kernel) (by decide +kernel) rfl rfl rfl rfl (fun _ _ _ _ h => h) (wanted_guard rfl rfl rfl hF316 rfl (decide_eq_false hc258) rfl) (fun W => (rn_lss (hF316.get rfl) rfl)) ?_
            intro a317 hF318; clear hF316
            refine any_pure (i := 14) (v := (.bool (decide (((l.getD k default).b : Int) < (0 : Int))))) hF318 (by decide +kernel) (by decide +kernel) rfl rfl rfl rfl (fun _ _ _ _ h => h) rfl (fun W => (rn_pickF (c_false hF318 rfl (decide_eq_false hc258)) (hF318.get rfl))) ?_
            intro a319 hF320; clear hF318
            refine any_pure (i := 15) (v := (.bool (decide (((l.getD k default).b : Int) < (0 : Int))))) hF320 (by decide +kernel) (by decide +kernel) rfl rfl rfl rfl (fun _ _ _ _ h => h) rfl (fun W => (rn_move (hF320.get rfl))) ?_
            intro a321 hF322; clear hF320
            by_cases hc323 : ((l.getD k default).b : Int) < (0 : Int)
            · skip
              refine any_pass (i := 16) hF322 (by decide +kernel) (by decide +kernel) rfl rfl rfl rfl (fun _ _ _ _ h => h) (unwanted_guard rfl rfl rfl hF322 rfl (decide_eq_true hc323) rfl) ?_
              intro a324 hF325; clear hF322
              refine any_pass (i := 17) hF325 (by decide +kernel) (by decide +kernel) rfl rfl rfl rfl (fun _ _ _ _ h => h) (unwanted_guard rfl rfl rfl hF325 rfl (decide_eq_true hc323) rfl) ?_
              intro a326 hF327; clear hF325
              refine any_pass (i := 18) hF327 (by decide +kernel) (by decide +kernel) rfl rfl rfl rfl (fun _ _ _ _ h => h) (unwanted_guard rfl rfl rfl hF327 rfl (decide_eq_true hc323) rfl) ?_
              intro a328 hF329; clear hF327
              refine any_pass (i := 19) hF329 (by decide +kernel) (by decide +kernel) rfl rfl rfl rfl (fun _ _ _ _ h => h) (unwanted_guard rfl rfl rfl hF329 rfl (decide_eq_true hc323) rfl) ?_
              intro a330 hF331; clear hF329
              refine any_pass (i := 20) hF331 (by decide +kernel) (by decide +kernel) rfl rfl rfl rfl (fun _ _ _ _ h => h) (unwanted_guard rfl rfl rfl hF331 rfl (decide_eq_true hc323) rfl) ?_
              intro a332 hF333; clear hF331
              refine any_pure (i := 21) (v := (.bool true)) hF333 (by decide +kernel) (by decide +kernel) rfl rfl rfl rfl (fun _ _ _ _ h => h) rfl (fun W => (rn_pickT (c_true hF333 rfl (decide_eq_true hc323)) rfl)) ?_
              intro a334 hF335; clear hF333
              refine any_pure (i := 22) (v := (.bool true)) hF335 (by decide +kernel) (by decide +kernel) rfl rfl rfl rfl (fun _ _ _ _ h => h) rfl (fun W => (rn_move (hF335.get rfl))) ?_
              intro a336 hF337; clear hF335
              refine any_pass (i := 23) hF337 (by decide +kernel) (by decide +kernel) rfl rfl rfl rfl (fun _ _ _ _ h => h) (unwanted_guard rfl rfl rfl hF337 rfl rfl rfl) ?_
              intro a338 hF339; clear hF337
              refine any_pass (i := 24) hF339 (by decide +kernel) (by decide +kernel) rfl rfl rfl rfl (fun _ _ _ _ h => h) (unwanted_guard rfl rfl rfl hF339 rfl rfl rfl) ?_
              intro a340 hF341; clear hF339
              refine any_pass (i := 25) hF341 (by decide +kernel) (by decide +kernel) rfl rfl rfl rfl (fun _ _ _ _ h => h) (unwanted_guard rfl rfl rfl hF341 rfl rfl rfl) ?_
              intro a342 hF343; clear hF341
              refine any_pass (i := 26) hF343 (by decide +kernel) (by decide +kernel) rfl rfl rfl rfl (fun _ _ _ _ h => h) (unwanted_guard rfl rfl rfl hF343 rfl rfl rfl) ?_
              intro a344 hF345; clear hF343
              refine any_pass (i := 27) hF345 (by decide +kernel) (by decide +kernel) rfl rfl rfl rfl (fun _ _ _ _ h => h) (unwanted_guard rfl rfl rfl hF345 rfl rfl rfl) ?_
              intro a346 hF347; clear hF345
              refine any_pass (i := 28) hF347 (by decide +kernel) (by decide +kernel) rfl rfl rfl rfl (fun _ _ _ _ h => h) (unwanted_guard rfl rfl rfl hF347 rfl rfl rfl) ?_
              intro a348 hF349; clear hF347
              refine any_pass (i := 29) hF349 (by decide +kernel) (by decide +kernel) rfl rfl rfl rfl (fun _ _ _ _ h => h) (unwanted_guard rfl rfl rfl hF349 rfl rfl rfl) ?_
              intro a350 hF351; clear hF349
              refine any_pass (i := 30) hF351 (by decide +kernel) (by decide +kernel) rfl rfl rfl rfl (fun _ _ _ _ h => h) (unwanted_guard rfl rfl rfl hF351 rfl rfl rfl) ?_
              intro a352 hF353; clear hF351
              refine any_pass (i := 31) hF353 (by decide +kernel) (by decide +kernel) rfl rfl rfl rfl (fun _ _ _ _ h => h) (unwanted_guard rfl rfl rfl hF353 rfl rfl rfl) ?_
              intro a354 hF355; clear hF353
              refine any_pass (i := 32) hF355 (by decide +kernel) (by decide +kernel) rfl rfl rfl rfl (fun _ _ _ _ h => h) (unwanted_guard rfl rfl rfl hF355 rfl rfl rfl) ?_
              intro a356 hF357; clear hF355
              refine any_pass (i := 33) hF357 (by decide +kernel) (by decide +kernel) rfl rfl rfl rfl (fun _ _ _ _ h => h) (unwanted_guard rfl rfl rfl hF357 rfl rfl rfl) ?_
              intro a358 hF359; clear hF357
              refine any_pass (i := 34) hF359 (by decide +kernel) (by decide +kernel) rfl rfl rfl rfl (fun _ _ _ _ h => h) (unwanted_guard rfl rfl rfl hF359 rfl rfl rfl) ?_
              intro a360 hF361; clear hF359
              refine any_pure (i := 35) (v := (.bool true)) hF361 (by decide +kernel) (by decide +kernel) rfl rfl rfl rfl (fun _ _ _ _ h => h) rfl (fun W => (rn_pickT (c_true hF361 rfl rfl) rfl)) ?_
              intro a362 hF363; clear hF361
              refine any_nil (by decide +kernel) ?_
              refine hK160 _ _ ?_
              clear hK160
              have hF364 := (((((((((((((((hF363.nil.cons (hF363.get (t := 74) (v := (.bool true)) rfl)).cons (hF363.get (t := 7) (v := (.pointer (some ⟨g148, 0, none⟩))) rfl)).cons (hF363.get (t := 36) (v := (.bool (decide (((k : Nat) : Int) < ((l.length : Nat) : Int))))) rfl)).cons (hF363.get (t := 35) (v := (.int .i64 (k : Nat))) rfl)).cons (hF363.get (t := 34) (v := (.int .i64 (l.length : Nat))) rfl)).cons (hF363.get (t := 33) (v := (.slice A l.length c)) rfl)).cons (hF363.get (t := 31) (v := (.bool false)) rfl)).cons (hF363.get (t := 23) (v := (.bool (decide ((er48 : Int) ≠ (0 : Int))))) rfl)).cons (hF363.get (t := 5) (v := (.int .i64 er48)) rfl)).cons (hF363.get (t := 3) (v := (.slice A40 m41 c42)) rfl)).cons (hF363.get (t := 15) (v := (.bool (!(few n l)))) rfl)).cons (hF363.get (t := 12) (v := (.bool false)) rfl)).cons (hF363.get (t := 2) (v := (.bool false)) rfl)).cons (hF363.get (t := 1) (v := (.pointer (some ⟨g2, 0, none⟩))) rfl)).cons (hF363.get (t := 0) (v := (.agg #[(.int .i64 n), (.slice A l.length c)])) rfl))
              clear hF363
              refine wp_cond_true (c_true hF364 rfl rfl) ?_
              refine wp_seq_k (fun K365 hK365 => ?_)
              refine wp_region_lit ?_
              refine wpl_op (i := 0) rfl (o_val (v := (.bool false)) hF364 rfl rfl rfl rfl (rn_assign rfl) ?_)
              intro a366 hF367; clear hF364
              refine wpList_nil ?_
              refine hK365 _ _ ?_
              clear hK365
              refine wp_ret ?_
              refine ret_block ?_
              refine ret_then ?_
              refine ret_then ?_
              refine ret_block ?_
              refine ret_then ?_
              refine ret1 hF367 rfl rfl ?_
              exfalso; omega
            · skip
              refine any_pure (i := 16) (v := (.pointer (some ⟨g148, 1, none⟩))) hF322 (by decide +kernel) (by decide +kernel) rfl rfl rfl rfl (fun _ _ _ _ h => h) (wanted_guard rfl rfl rfl hF322 rfl (decide_eq_false hc323) rfl) (fun W => (rn_field Try.underlying41 rfl (by kernel_rfl) (hF322.get rfl) rfl)) ?_
              intro a368 hF369; clear hF322
              refine any_val (i := 17) (v := (.int .i64 ((l.getD k default).b))) hF369 (by decide +kernel) (by decide +kernel) rfl rfl rfl rfl (fun _ _ _ _ h => h) (wanted_guard rfl rfl rfl hF369 rfl (decide_eq_false hc323) rfl) hS167 (fun W hW => (rn_load (isAgg_no Try.underlying3 rfl) (hF369.get rfl) (hW.2.rule.1 1))) ?_
              intro a370 hF371; clear hF369
              refine any_pure (i := 18) (v := (.slice A40 m41 c42)) hF371 (by decide +kernel) (by decide +kernel) rfl rfl rfl rfl (fun _ _ _ _ h => h) (wanted_guard rfl rfl rfl hF371 rfl (decide_eq_false hc323) rfl) (fun W => (rn_move (hF371.get rfl))) ?_
              intro a372 hF373; clear hF371
              refine any_pure (i := 19) (v := (.int .i64 (m41 : Nat))) hF373 (by decide +kernel) (by decide +kernel) rfl rfl rfl rfl (fun _ _ _ _ h => h) (wanted_guard rfl rfl rfl hF373 rfl (decide_eq_false hc323) rfl) (fun W => (rn_len_slice Try.underlying33 (hF373.get rfl))) ?_
              intro a374 hF375; clear hF373
              refine any_pure (i := 20) (v := (.bool (decide (((m41 : Nat) : Int) ≤ ((l.getD k default).b : Int))))) hF375 (by decide +kernel) (by decide +kernel) rfl rfl rfl rfl (fun _ _ _ _ h => h) (wanted_guard rfl rfl rfl hF375 rfl (decide_eq_false hc323) rfl) (fun W => (rn_geq (hF375.get rfl) (hF375.get rfl))) ?_
              intro a376 hF377; clear hF375
              refine any_pure (i := 21) (v := (.bool (decide (((m41 : Nat) : Int) ≤ ((l.getD k default).b : Int))))) hF377 (by decide +kernel) (by decide +kernel) rfl rfl rfl rfl (fun _ _ _ _ h => h) rfl (fun W => (rn_pickF (c_false hF377 rfl (decide_eq_false hc323)) (hF377.get rfl))) ?_
              intro a378 hF379; clear hF377
              refine any_pure (i := 22) (v := (.bool (decide (((m41 : Nat) : Int) ≤ ((l.getD k default).b : Int))))) hF379 (by decide +kernel) (by decide +kernel) rfl rfl rfl rfl (fun _ _ _ _ h => h) rfl (fun W => (rn_move (hF379.get rfl))) ?_
              intro a380 hF381; clear hF379
              by_cases hc382 : ((m41 : Nat) : Int) ≤ ((l.getD k default).b : Int)
              · skip
                refine any_pass (i := 23) hF381 (by decide +kernel) (by decide +kernel) rfl rfl rfl rfl (fun _ _ _ _ h => h) (unwanted_guard rfl rfl rfl hF381 rfl (decide_eq_true hc382) rfl) ?_
                intro a383 hF384; clear hF381
                refine any_pass (i := 24) hF384 (by decide +kernel) (by decide +kernel) rfl rfl rfl rfl (fun _ _ _ _ h => h) (unwanted_guard rfl rfl rfl hF384 rfl (decide_eq_true hc382) rfl) ?_
                intro a385 hF386; clear hF384
                refine any_pass (i := 25) hF386 (by decide +kernel) (by decide +kernel) rfl rfl rfl rfl (fun _ _ _ _ h => h) (unwanted_guard rfl rfl rfl hF386 rfl (decide_eq_true hc382) rfl) ?_
                intro a387 hF388; clear hF386
                refine any_pass (i := 26) hF388 (by decide +kernel) (by decide +kernel) rfl rfl rfl rfl (fun _ _ _ _ h => h) (unwanted_guard rfl rfl rfl hF388 rfl (decide_eq_true hc382) rfl) ?_
                intro a389 hF390; clear hF388
                refine any_pass (i := 27) hF390 (by decide +kernel) (by decide +kernel) rfl rfl rfl rfl (fun _ _ _ _ h => h) (unwanted_guard rfl rfl rfl hF390 rfl (decide_eq_true hc382) rfl) ?_
                intro a391 hF392; clear hF390
                refine any_pass (i := 28) hF392 (by decide +kernel) (by decide +kernel) rfl rfl rfl rfl (fun _ _ _ _ h => h) (unwanted_guard rfl rfl rfl hF392 rfl (decide_eq_true hc382) rfl) ?_
                intro a393 hF394; clear hF392
                refine any_pass (i := 29) hF394 (by decide +kernel) (by decide +kernel) rfl rfl rfl rfl (fun _ _ _ _ h => h) (unwanted_guard rfl rfl rfl hF394 rfl (decide_eq_true hc382) rfl) ?_
                intro a395 hF396; clear hF394
                refine any_pass (i := 30) hF396 (by decide +kernel) (by decide +kernel) rfl rfl rfl rfl (fun _ _ _ _ h => h) (unwanted_guard rfl rfl rfl hF396 rfl (decide_eq_true hc382) rfl) ?_
                intro a397 hF398; clear hF396
                refine any_pass (i := 31) hF398 (by decide +kernel) (by decide +kernel) rfl rfl rfl rfl (fun _ _ _ _ h => h) (unwanted_guard rfl rfl rfl hF398 rfl (decide_eq_true hc382) rfl) ?_
                intro a399 hF400; clear hF398
                refine any_pass (i := 32) hF400 (by decide +kernel) (by decide +kernel) rfl rfl rfl rfl (fun _ _ _ _ h => h) (unwanted_guard rfl rfl rfl hF400 rfl (decide_eq_true hc382) rfl) ?_
                intro a401 hF402; clear hF400
                refine any_pass (i := 33) hF402 (by decide +kernel) (by decide +kernel) rfl rfl rfl rfl (fun _ _ _ _ h => h) (unwanted_guard rfl rfl rfl hF402 rfl (decide_eq_true hc382) rfl) ?_
                intro a403 hF404; clear hF402
                refine any_pass (i := 34) hF404 (by decide +kernel) (by decide +kernel) rfl rfl rfl rfl (fun _ _ _ _ h => h) (unwanted_guard rfl rfl rfl hF404 rfl (decide_eq_true hc382) rfl) ?_
                intro a405 hF406; clear hF404
                refine any_pure (i := 35) (v := (.bool true)) hF406 (by decide +kernel) (by decide +kernel) rfl rfl rfl rfl (fun _ _ _ _ h => h) rfl (fun W => (rn_pickT (c_true hF406 rfl (decide_eq_true hc382)) rfl)) ?_
                intro a407 hF408; clear hF406
                refine any_nil (by decide +kernel) ?_
                refine hK160 _ _ ?_
                clear hK160
                have hF409 := (((((((((((((((hF408.nil.cons (hF408.get (t := 74) (v := (.bool true)) rfl)).cons (hF408.get (t := 7) (v := (.pointer (some ⟨g148, 0, none⟩))) rfl)).cons (hF408.get (t := 36) (v := (.bool (decide (((k : Nat) : Int) < ((l.length : Nat) : Int))))) rfl)).cons (hF408.get (t := 35) (v := (.int .i64 (k : Nat))) rfl)).cons (hF408.get (t := 34) (v := (.int .i64 (l.length : Nat))) rfl)).cons (hF408.get (t := 33) (v := (.slice A l.length c)) rfl)).cons (hF408.get (t := 31) (v := (.bool false)) rfl)).cons (hF408.get (t := 23) (v := (.bool (decide ((er48 : Int) ≠ (0 : Int))))) rfl)).cons (hF408.get (t := 5) (v := (.int .i64 er48)) rfl)).cons (hF408.get (t := 3) (v := (.slice A40 m41 c42)) rfl)).cons (hF408.get (t := 15) (v := (.bool (!(few n l)))) rfl)).cons (hF408.get (t := 12) (v := (.bool false)) rfl)).cons (hF408.get (t := 2) (v := (.bool false)) rfl)).cons (hF408.get (t := 1) (v := (.pointer (some ⟨g2, 0, none⟩))) rfl)).cons (hF408.get (t := 0) (v := (.agg #[(.int .i64 n), (.slice A l.length c)])) rfl))
                clear hF408
                refine wp_cond_true (c_true hF409 rfl rfl) ?_
                refine wp_seq_k (fun K410 hK410 => ?_)
                refine wp_region_lit ?_
                refine wpl_op (i := 0) rfl (o_val (v := (.bool false)) hF409 rfl rfl rfl rfl (rn_assign rfl) ?_)
                intro a411 hF412; clear hF409
                refine wpList_nil ?_
                refine hK410 _ _ ?_
                clear hK410
                refine wp_ret ?_
                refine ret_block ?_
                refine ret_then ?_
                refine ret_then ?_
                refine ret_block ?_
                refine ret_then ?_
                refine ret1 hF412 rfl rfl ?_
                exfalso; omega
              · skip
                refine any_pure (i := 23) (v := (.slice A40 m41 c42)) hF381 (by decide +kernel) (by decide +kernel) rfl rfl rfl rfl (fun _ _ _ _ h => h) (wanted_guard rfl rfl rfl hF381 rfl (decide_eq_false hc382) rfl) (fun W => (rn_move (hF381.get rfl))) ?_
                intro a413 hF414; clear hF381
                refine any_pure (i := 24) (v := (.pointer (some ⟨g148, 0, none⟩))) hF414 (by decide +kernel) (by decide +kernel) rfl rfl rfl rfl (fun _ _ _ _ h => h) (wanted_guard rfl rfl rfl hF414 rfl (decide_eq_false hc382) rfl) (fun W => (rn_field Try.underlying41 rfl (by kernel_rfl) (hF414.get rfl) rfl)) ?_
                intro a415 hF416; clear hF414
                refine any_val (i := 25) (v := (.int .i64 ((l.getD k default).a))) hF416 (by decide +kernel) (by decide +kernel) rfl rfl rfl rfl (fun _ _ _ _ h => h) (wanted_guard rfl rfl rfl hF416 rfl (decide_eq_false hc382) rfl) hS167 (fun W hW => (rn_load (isAgg_no Try.underlying3 rfl) (hF416.get rfl) (hW.2.rule.1 0))) ?_
                intro a417 hF418; clear hF416
                have d429 := (hf128.pres ((((Pres.refl w123).ext hx151).grownN hg158 (fun h => by simp only [Clip] at h; omega)).ext hx162))
                obtain ⟨b419, o420, A421, c422, hA423, hl424, hc425, hr426, z427, z428⟩ := RIss.get (i := ((l.getD k default).a : Int).toNat) d429 (by omega)
                have z430 := hdt.row (((l.getD k default).a : Int).toNat) (by omega)
                refine any_pure (i := 26) (v := (.pointer (some ⟨b419, o420 + ((l.getD k default).a : Int).toNat, none⟩))) hF418 (by decide +kernel) (by decide +kernel) rfl rfl rfl rfl (fun _ _ _ _ h => h) (wanted_guard rfl rfl rfl hF418 rfl (decide_eq_false hc382) rfl) (fun W => (rn_index1 Try.underlying33 (by kernel_rfl : (Try.prog.info? 25).map (·.size) = some 1) ((hF418.get rfl).trans (by rw [hA423])) (hF418.get rfl) (by omega : (0 : Int) ≤ (l.getD k default).a) (by omega : ((l.getD k default).a : Int) < ((m41 : Nat) : Int)))) ?_
                intro a431 hF432; clear hF418
                refine any_val (i := 27) (v := (.slice A421 ((t43.getD (((l.getD k default).a : Int).toNat) []).length) c422)) hF432 (by decide +kernel) (by decide +kernel) rfl rfl rfl rfl (fun _ _ _ _ h => h) (wanted_guard rfl rfl rfl hF432 rfl (decide_eq_false hc382) rfl) hS167 (fun W hW => (rn_load (isAgg_no Try.underlying25 rfl) (hF432.get rfl) (Ext.keep ((Ext.refl w161).trans hW.1) hc425))) ?_
                intro a433 hF434; clear hF432
                refine any_pure (i := 28) (v := (.pointer (some ⟨g148, 1, none⟩))) hF434 (by decide +kernel) (by decide +kernel) rfl rfl rfl rfl (fun _ _ _ _ h => h) (wanted_guard rfl rfl rfl hF434 rfl (decide_eq_false hc382) rfl) (fun W => (rn_field Try.underlying41 rfl (by kernel_rfl) (hF434.get rfl) rfl)) ?_
                intro a435 hF436; clear hF434
                refine any_val (i := 29) (v := (.int .i64 ((l.getD k default).b))) hF436 (by decide +kernel) (by decide +kernel) rfl rfl rfl rfl (fun _ _ _ _ h => h) (wanted_guard rfl rfl rfl hF436 rfl (decide_eq_false hc382) rfl) hS167 (fun W hW => (rn_load (isAgg_no Try.underlying3 rfl) (hF436.get rfl) (hW.2.rule.1 1))) ?_
                intro a437 hF438; clear hF436
                obtain ⟨b439, o440, hA441, -⟩ := Fl.at hr426 (by omega)
                refine any_pure (i := 30) (v := (.pointer (some ⟨b439, o440 + ((l.getD k default).b : Int).toNat, none⟩))) hF438 (by decide +kernel) (by decide +kernel) rfl rfl rfl rfl (fun _ _ _ _ h => h) (wanted_guard rfl rfl rfl hF438 rfl (decide_eq_false hc382) rfl) (fun W => (rn_index1 Try.underlying25 (by kernel_rfl : (Try.prog.info? 3).map (·.size) = some 1) ((hF438.get rfl).trans (by rw [hA441])) (hF438.get rfl) (by omega : (0 : Int) ≤ (l.getD k default).b) (by omega : ((l.getD k default).b : Int) < (((t43.getD (((l.getD k default).a : Int).toNat) []).length : Nat) : Int)))) ?_
                intro a442 hF443; clear hF438
                refine any_val (i := 31) (v := (.int .i64 ((t43.getD (((l.getD k default).a : Int).toNat) []).getD (((l.getD k default).b : Int).toNat) 0))) hF443 (by decide +kernel) (by decide +kernel) rfl rfl rfl rfl (fun _ _ _ _ h => h) (wanted_guard rfl rfl rfl hF443 rfl (decide_eq_false hc382) rfl) hS167 (fun W hW => (rn_load (isAgg_no Try.underlying3 rfl) (hF443.get rfl) (Fl.cellAt (hr426.ext hW.1) hA441 (intVals_at (i := ((l.getD k default).b : Int).toNat) (by omega))))) ?_
                intro a444 hF445; clear hF443
                refine any_pure (i := 32) (v := (.pointer (some ⟨g148, 2, none⟩))) hF445 (by decide +kernel) (by decide +kernel) rfl rfl rfl rfl (fun _ _ _ _ h => h) (wanted_guard rfl rfl rfl hF445 rfl (decide_eq_false hc382) rfl) (fun W => (rn_field Try.underlying41 rfl (by kernel_rfl) (hF445.get rfl) rfl)) ?_
                intro a446 hF447; clear hF445
                refine any_val (i := 33) (v := (.int .i64 ((l.getD k default).w))) hF447 (by decide +kernel) (by decide +kernel) rfl rfl rfl rfl (fun _ _ _ _ h => h) (wanted_guard rfl rfl rfl hF447 rfl (decide_eq_false hc382) rfl) hS167 (fun W hW => (rn_load (isAgg_no Try.underlying3 rfl) (hF447.get rfl) (hW.2.rule.1 2))) ?_
                intro a448 hF449; clear hF447
                refine any_pure (i := 34) (v := (.bool (decide (((l.getD k default).w : Int) < (((t43.getD (((l.getD k default).a : Int).toNat) []).getD (((l.getD k default).b : Int).toNat) 0) : Int))))) hF449 (by decide +kernel) (by decide +kernel) rfl rfl rfl rfl (fun _ _ _ _ h => h) (wanted_guard rfl rfl rfl hF449 rfl (decide_eq_false hc382) rfl) (fun W => (rn_gtr (hF449.get rfl) (hF449.get rfl))) ?_
                intro a450 hF451; clear hF449
                refine any_pure (i := 35) (v := (.bool (decide (((l.getD k default).w : Int) < (((t43.getD (((l.getD k default).a : Int).toNat) []).getD (((l.getD k default).b : Int).toNat) 0) : Int))))) hF451 (by decide +kernel) (by decide +kernel) rfl rfl rfl rfl (fun _ _ _ _ h => h) rfl (fun W => (rn_pickF (c_false hF451 rfl (decide_eq_false hc382)) (hF451.get rfl))) ?_
                intro a452 hF453; clear hF451
                refine any_nil (by decide +kernel) ?_
                refine hK160 _ _ ?_
                clear hK160
                have hF454 := (((((((((((((((hF453.nil.cons (hF453.get (t := 74) (v := (.bool (decide (((l.getD k default).w : Int) < (((t43.getD (((l.getD k default).a : Int).toNat) []).getD (((l.getD k default).b : Int).toNat) 0) : Int))))) rfl)).cons (hF453.get (t := 7) (v := (.pointer (some ⟨g148, 0, none⟩))) rfl)).cons (hF453.get (t := 36) (v := (.bool (decide (((k : Nat) : Int) < ((l.length : Nat) : Int))))) rfl)).cons (hF453.get (t := 35) (v := (.int .i64 (k : Nat))) rfl)).cons (hF453.get (t := 34) (v := (.int .i64 (l.length : Nat))) rfl)).cons (hF453.get (t := 33) (v := (.slice A l.length c)) rfl)).cons (hF453.get (t := 31) (v := (.bool false)) rfl)).cons (hF453.get (t := 23) (v := (.bool (decide ((er48 : Int) ≠ (0 : Int))))) rfl)).cons (hF453.get (t := 5) (v := (.int .i64 er48)) rfl)).cons (hF453.get (t := 3) (v := (.slice A40 m41 c42)) rfl)).cons (hF453.get (t := 15) (v := (.bool (!(few n l)))) rfl)).cons (hF453.get (t := 12) (v := (.bool false)) rfl)).cons (hF453.get (t := 2) (v := (.bool false)) rfl)).cons (hF453.get (t := 1) (v := (.pointer (some ⟨g2, 0, none⟩))) rfl)).cons (hF453.get (t := 0) (v := (.agg #[(.int .i64 n), (.slice A l.length c)])) rfl))
                clear hF453
                by_cases hc455 : ((l.getD k default).w : Int) < (((t43.getD (((l.getD k default).a : Int).toNat) []).getD (((l.getD k default).b : Int).toNat) 0) : Int)
                · skip
                  refine wp_cond_true (c_true hF454 rfl (decide_eq_true hc455)) ?_
                  refine wp_seq_k (fun K456 hK456 => ?_)
                  refine wp_region_lit ?_
                  refine wpl_op (i := 0) rfl (o_val (v := (.bool false)) hF454 rfl rfl rfl rfl (rn_assign rfl) ?_)
                  intro a457 hF458; clear hF454
                  refine wpList_nil ?_
                  refine hK456 _ _ ?_
                  clear hK456
                  refine wp_ret ?_
                  refine ret_block ?_
                  refine ret_then ?_
                  refine ret_then ?_
                  refine ret_block ?_
                  refine ret_then ?_
                  refine ret1 hF458 rfl rfl ?_
                  exfalso; omega
                · skip
                  refine wp_cond_false (c_false hF454 rfl (decide_eq_false hc455)) ?_
                  refine wp_skip ?_
                  refine hK138 _ _ ?_
                  clear hK138
                  refine wp_region_lit ?_
                  refine wpl_op (i := 0) rfl (o_val (v := (.int .i64 (k + 1 : Nat))) hF454 rfl rfl rfl rfl (rn_addN (a := k) (b := 1) (hF454.get rfl) rfl (by omega)) ?_)
                  intro a459 hF460; clear hF454
                  refine wpl_op (i := 1) rfl (o_val (v := (.int .i64 (k + 1 : Nat))) hF460 rfl rfl rfl rfl (rn_move (hF460.get rfl)) ?_)
                  intro a461 hF462; clear hF460
                  refine wpList_nil ?_
                  have b463 : Blk w161 g2 24 [(.int .i64 n), (.slice A l.length c)] := (((b127.ext hx151).grownN hg158 (by omega)).ext hx162)
                  refine ⟨⟨(k + 1), ((((((((((((hF462.nil.cons (q_get hF462 (t := 35) rfl (by first | rfl | (congr 1; omega) | (congr 1; done)))).cons (q_get hF462 (t := 34) rfl rfl)).cons (q_get hF462 (t := 33) rfl rfl)).cons (q_get hF462 (t := 31) rfl rfl)).cons (q_get hF462 (t := 23) rfl rfl)).cons (q_get hF462 (t := 5) rfl rfl)).cons (q_get hF462 (t := 3) rfl rfl)).cons (q_get hF462 (t := 15) rfl rfl)).cons (q_get hF462 (t := 12) rfl rfl)).cons (q_get hF462 (t := 2) rfl rfl)).cons (q_get hF462 (t := 1) rfl rfl)).cons (q_get hF462 (t := 0) rfl rfl)), (by omega), (((((Ext.refl w).trans hx125).trans hx151).grownN hg158 (by omega)).trans hx162), b463, d429, (by omega)⟩, ?_⟩
                  rw [hF462.get (t := 35) rfl, hL130.get (t := 35) rfl]; simp [intOf] <;> omega
      · skip
        refine wp_cond_false (c_false hF135 rfl (decide_eq_false hc137)) ?_
        refine wp_exit ?_
        refine exit_then ?_
        refine exit_then ?_
        refine exit_here ?_
        refine hK110 _ _ ?_
        clear hK110
        refine wp_seq_k (fun K464 hK464 => ?_)
        refine wp_seq_k (fun K465 hK465 => ?_)
        refine wp_region_lit ?_
        refine wpl_op (i := 0) rfl (o_val (v := (.slice A40 m41 c42)) hF135 rfl rfl rfl rfl (rn_move (hF135.get rfl)) ?_)
        intro a466 hF467; clear hF135
        refine wpl_op (i := 1) rfl (o_val (v := (.int .i64 (m41 : Nat))) hF467 rfl rfl rfl rfl (rn_len_slice Try.underlying33 (hF467.get rfl)) ?_)
        intro a468 hF469; clear hF467
        refine wpl_op (i := 2) rfl (o_val (v := (.int .i64 0)) hF469 rfl rfl rfl rfl (rn_move rfl) ?_)
        intro a470 hF471; clear hF469
        refine wpList_nil ?_
        refine hK465 _ _ ?_
        clear hK465
        refine wp_block ?_
        refine wp_loop (fun a' W => ∃ (i1 : Nat), Sl 145 [(0, (.agg #[(.int .i64 n), (.slice A l.length c)])), (1, (.pointer (some ⟨g2, 0, none⟩))), (2, (.bool false)), (12, (.bool false)), (15, (.bool (!(few n l)))), (3, (.slice A40 m41 c42)), (5, (.int .i64 er48)), (23, (.bool (decide ((er48 : Int) ≠ (0 : Int))))), (31, (.bool false)), (33, (.slice A l.length c)), (34, (.int .i64 (l.length : Nat))), (35, (.int .i64 (k : Nat))), (36, (.bool (decide (((k : Nat) : Int) < ((l.length : Nat) : Int))))), (77, (.int .i64 (m41 : Nat))), (78, (.int .i64 (i1 : Nat)))] a' ∧ i1 ≤ n.toNat ∧ Ext w W ∧ Blk W g2 24 [(.int .i64 n), (.slice A l.length c)] ∧ RIss (Clip (fun b => w27.heap.size ≤ b) w54) W (.slice A40 m41 c42) t43 ∧ w123.heap.size ≤ W.heap.size) (fun a' _ => n.toNat - (intOf (a'.eval (.tmp 78))).toNat) ⟨0, (((((((((((((((hF471.nil.cons (q_get hF471 (t := 78) rfl (by first | rfl | (congr 1; omega) | (congr 1; done)))).cons (q_get hF471 (t := 77) rfl rfl)).cons (q_get hF471 (t := 36) rfl rfl)).cons (q_get hF471 (t := 35) rfl rfl)).cons (q_get hF471 (t := 34) rfl rfl)).cons (q_get hF471 (t := 33) rfl rfl)).cons (q_get hF471 (t := 31) rfl rfl)).cons (q_get hF471 (t := 23) rfl rfl)).cons (q_get hF471 (t := 5) rfl rfl)).cons (q_get hF471 (t := 3) rfl rfl)).cons (q_get hF471 (t := 15) rfl rfl)).cons (q_get hF471 (t := 12) rfl rfl)).cons (q_get hF471 (t := 2) rfl rfl)).cons (q_get hF471 (t := 1) rfl rfl)).cons (q_get hF471 (t := 0) rfl rfl)), (by omega), ((Ext.refl w).trans hx125), b127, hf128, (Nat.le_refl _)⟩ ?_
        clear hF471
        rintro a472 w473 ⟨i1, hF474, hp476, hx475, b477, hf478, hf479⟩
        have hL480 := hF474
        have z481 := hx475.size
        have z482 := b477.lt
        refine wp_seq_k (fun K483 hK483 => ?_)
        refine wp_region_lit ?_
        refine wpl_op (i := 0) rfl (o_val (v := (.bool (decide (((i1 : Nat) : Int) < ((m41 : Nat) : Int))))) hF474 rfl rfl rfl rfl (rn_lss (hF474.get rfl) (hF474.get rfl)) ?_)
        intro a484 hF485; clear hF474
        refine wpList_nil ?_
        refine hK483 _ _ ?_
        clear hK483
        refine wp_seq_k (fun K486 hK486 => ?_)
        by_cases hc487 : ((i1 : Nat) : Int) < ((m41 : Nat) : Int)
        · skip
          refine wp_cond_true (c_true hF485 rfl (decide_eq_true hc487)) ?_
          refine wp_skip ?_
          refine hK486 _ _ ?_
          clear hK486
          refine wp_seq_k (fun K488 hK488 => ?_)
          refine wp_block ?_
          refine wp_seq_k (fun K489 hK489 => ?_)
          refine wp_region_lit ?_
          refine wpl_op (i := 0) rfl (o_val (v := (.int .i64 (i1 : Nat))) hF485 rfl rfl rfl rfl (rn_move (hF485.get rfl)) ?_)
          intro a490 hF491; clear hF485
          refine wpl_op (i := 1) rfl (o_val (v := (.int .i64 (i1 : Nat))) hF491 rfl rfl rfl rfl (rn_assign (hF491.get rfl)) ?_)
          intro a492 hF493; clear hF491
          refine wpList_nil ?_
          refine hK489 _ _ ?_
          clear hK489
          refine wp_seq_k (fun K494 hK494 => ?_)
          refine wp_seq_k (fun K495 hK495 => ?_)
          refine wp_region_lit ?_
          refine wpl_op (i := 0) rfl (o_val (v := (.slice A40 m41 c42)) hF493 rfl rfl rfl rfl (rn_move (hF493.get rfl)) ?_)
          intro a496 hF497; clear hF493
          refine wpl_op (i := 1) rfl (o_val (v := (.int .i64 (m41 : Nat))) hF497 rfl rfl rfl rfl (rn_len_slice Try.underlying33 (hF497.get rfl)) ?_)
          intro a498 hF499; clear hF497
          refine wpl_op (i := 2) rfl (o_val (v := (.int .i64 0)) hF499 rfl rfl rfl rfl (rn_move rfl) ?_)
          intro a500 hF501; clear hF499
          refine wpList_nil ?_
          refine hK495 _ _ ?_
          clear hK495
          refine wp_block ?_
          refine wp_loop (fun a' W => ∃ (k1 : Nat), Sl 145 [(0, (.agg #[(.int .i64 n), (.slice A l.length c)])), (1, (.pointer (some ⟨g2, 0, none⟩))), (2, (.bool false)), (12, (.bool false)), (15, (.bool (!(few n l)))), (3, (.slice A40 m41 c42)), (5, (.int .i64 er48)), (23, (.bool (decide ((er48 : Int) ≠ (0 : Int))))), (31, (.bool false)), (33, (.slice A l.length c)), (34, (.int .i64 (l.length : Nat))), (35, (.int .i64 (k : Nat))), (36, (.bool (decide (((k : Nat) : Int) < ((l.length : Nat) : Int))))), (77, (.int .i64 (m41 : Nat))), (78, (.int .i64 (i1 : Nat))), (79, (.bool (decide (((i1 : Nat) : Int) < ((m41 : Nat) : Int))))), (8, (.int .i64 (i1 : Nat))), (82, (.int .i64 (m41 : Nat))), (83, (.int .i64 (k1 : Nat)))] a' ∧ k1 ≤ n.toNat ∧ Ext w W ∧ Blk W g2 24 [(.int .i64 n), (.slice A l.length c)] ∧ RIss (Clip (fun b => w27.heap.size ≤ b) w54) W (.slice A40 m41 c42) t43 ∧ w473.heap.size ≤ W.heap.size) (fun a' _ => n.toNat - (intOf (a'.eval (.tmp 83))).toNat) ⟨0, (((((((((((((((((((hF501.nil.cons (q_get hF501 (t := 83) rfl (by first | rfl | (congr 1; omega) | (congr 1; done)))).cons (q_get hF501 (t := 82) rfl rfl)).cons (q_get hF501 (t := 8) rfl rfl)).cons (q_get hF501 (t := 79) rfl rfl)).cons (q_get hF501 (t := 78) rfl rfl)).cons (q_get hF501 (t := 77) rfl rfl)).cons (q_get hF501 (t := 36) rfl rfl)).cons (q_get hF501 (t := 35) rfl rfl)).cons (q_get hF501 (t := 34) rfl rfl)).cons (q_get hF501 (t := 33) rfl rfl)).cons (q_get hF501 (t := 31) rfl rfl)).cons (q_get hF501 (t := 23) rfl rfl)).cons (q_get hF501 (t := 5) rfl rfl)).cons (q_get hF501 (t := 3) rfl rfl)).cons (q_get hF501 (t := 15) rfl rfl)).cons (q_get hF501 (t := 12) rfl rfl)).cons (q_get hF501 (t := 2) rfl rfl)).cons (q_get hF501 (t := 1) rfl rfl)).cons (q_get hF501 (t := 0) rfl rfl)), (by omega), ((Ext.refl w).trans hx475), b477, hf478, (Nat.le_refl _)⟩ ?_
          clear hF501
          rintro a502 w503 ⟨k1, hF504, hp506, hx505, b507, hf508, hf509⟩
          have hL510 := hF504
          have z511 := hx505.size
          have z512 := b507.lt
          refine wp_seq_k (fun K513 hK513 => ?_)
          refine wp_region_lit ?_
          refine wpl_op (i := 0) rfl (o_val (v := (.bool (decide (((k1 : Nat) : Int) < ((m41 : Nat) : Int))))) hF504 rfl rfl rfl rfl (rn_lss (hF504.get rfl) (hF504.get rfl)) ?_)
          intro a514 hF515; clear hF504
          refine wpList_nil ?_
          refine hK513 _ _ ?_
          clear hK513
          refine wp_seq_k (fun K516 hK516 => ?_)
          by_cases hc517 : ((k1 : Nat) : Int) < ((m41 : Nat) : Int)
          · skip
            refine wp_cond_true (c_true hF515 rfl (decide_eq_true hc517)) ?_
            refine wp_skip ?_
            refine hK516 _ _ ?_
            clear hK516
            refine wp_seq_k (fun K518 hK518 => ?_)
            refine wp_block ?_
            refine wp_seq_k (fun K519 hK519 => ?_)
            refine wp_region_lit ?_
            refine wpl_op (i := 0) rfl (o_val (v := (.int .i64 (k1 : Nat))) hF515 rfl rfl rfl rfl (rn_move (hF515.get rfl)) ?_)
            intro a520 hF521; clear hF515
            refine wpl_op (i := 1) rfl (o_val (v := (.int .i64 (k1 : Nat))) hF521 rfl rfl rfl rfl (rn_assign (hF521.get rfl)) ?_)
            intro a522 hF523; clear hF521
            refine wpList_nil ?_
            refine hK519 _ _ ?_
            clear hK519
            refine wp_seq_k (fun K524 hK524 => ?_)
            refine wp_region_lit ?_
            refine wpl_op (i := 0) rfl (o_val (v := (.slice A40 m41 c42)) hF523 rfl rfl rfl rfl (rn_move (hF523.get rfl)) ?_)
            intro a525 hF526; clear hF523
            refine wpl_op (i := 1) rfl (o_val (v := (.int .i64 (m41 : Nat))) hF526 rfl rfl rfl rfl (rn_len_slice Try.underlying33 (hF526.get rfl)) ?_)
            intro a527 hF528; clear hF526
            refine wpl_op (i := 2) rfl (o_val (v := (.int .i64 0)) hF528 rfl rfl rfl rfl (rn_move rfl) ?_)
            intro a529 hF530; clear hF528
            refine wpList_nil ?_
            refine hK524 _ _ ?_
            clear hK524
            refine wp_block ?_
            refine wp_loop (fun a' W => ∃ (m1 : Nat), Sl 145 [(0, (.agg #[(.int .i64 n), (.slice A l.length c)])), (1, (.pointer (some ⟨g2, 0, none⟩))), (2, (.bool false)), (12, (.bool false)), (15, (.bool (!(few n l)))), (3, (.slice A40 m41 c42)), (5, (.int .i64 er48)), (23, (.bool (decide ((er48 : Int) ≠ (0 : Int))))), (31, (.bool false)), (33, (.slice A l.length c)), (34, (.int .i64 (l.length : Nat))), (35, (.int .i64 (k : Nat))), (36, (.bool (decide (((k : Nat) : Int) < ((l.length : Nat) : Int))))), (77, (.int .i64 (m41 : Nat))), (78, (.int .i64 (i1 : Nat))), (79, (.bool (decide (((i1 : Nat) : Int) < ((m41 : Nat) : Int))))), (8, (.int .i64 (i1 : Nat))), (82, (.int .i64 (m41 : Nat))), (83, (.int .i64 (k1 : Nat))), (84, (.bool (decide (((k1 : Nat) : Int) < ((m41 : Nat) : Int))))), (9, (.int .i64 (k1 : Nat))), (87, (.int .i64 (m41 : Nat))), (88, (.int .i64 (m1 : Nat)))] a' ∧ m1 ≤ n.toNat ∧ Ext w W ∧ Blk W g2 24 [(.int .i64 n), (.slice A l.length c)] ∧ RIss (Clip (fun b => w27.heap.size ≤ b) w54) W (.slice A40 m41 c42) t43 ∧ w503.heap.size ≤ W.heap.size) (fun a' _ => n.toNat - (intOf (a'.eval (.tmp 88))).toNat) ⟨0, (((((((((((((((((((((((hF530.nil.cons (q_get hF530 (t := 88) rfl (by first | rfl | (congr 1; omega) | (congr 1; done)))).cons (q_get hF530 (t := 87) rfl rfl)).cons (q_get hF530 (t := 9) rfl rfl)).cons (q_get hF530 (t := 84) rfl rfl)).cons (q_get hF530 (t := 83) rfl rfl)).cons (q_get hF530 (t := 82) rfl rfl)).cons (q_get hF530 (t := 8) rfl rfl)).cons (q_get hF530 (t := 79) rfl rfl)).cons (q_get hF530 (t := 78) rfl rfl)).cons (q_get hF530 (t := 77) rfl rfl)).cons (q_get hF530 (t := 36) rfl rfl)).cons (q_get hF530 (t := 35) rfl rfl)).cons (q_get hF530 (t := 34) rfl rfl)).cons (q_get hF530 (t := 33) rfl rfl)).cons (q_get hF530 (t := 31) rfl rfl)).cons (q_get hF530 (t := 23) rfl rfl)).cons (q_get hF530 (t := 5) rfl rfl)).cons (q_get hF530 (t := 3) rfl rfl)).cons (q_get hF530 (t := 15) rfl rfl)).cons (q_get hF530 (t := 12) rfl rfl)).cons (q_get hF530 (t := 2) rfl rfl)).cons (q_get hF530 (t := 1) rfl rfl)).cons (q_get hF530 (t := 0) rfl rfl)), (by omega), ((Ext.refl w).trans hx505), b507, hf508, (Nat.le_refl _)⟩ ?_
            clear hF530
            rintro a531 w532 ⟨m1, hF533, hp535, hx534, b536, hf537, hf538⟩
            have hL539 := hF533
            have z540 := hx534.size
            have z541 := b536.lt
            refine wp_seq_k (fun K542 hK542 => ?_)
            refine wp_region_lit ?_
            refine wpl_op (i := 0) rfl (o_val (v := (.bool (decide (((m1 : Nat) : Int) < ((m41 : Nat) : Int))))) hF533 rfl rfl rfl rfl (rn_lss (hF533.get rfl) (hF533.get rfl)) ?_)
            intro a543 hF544; clear hF533
            refine wpList_nil ?_
            refine hK542 _ _ ?_
            clear hK542
            refine wp_seq_k (fun K545 hK545 => ?_)
            by_cases hc546 : ((m1 : Nat) : Int) < ((m41 : Nat) : Int)
            · skip
              refine wp_cond_true (c_true hF544 rfl (decide_eq_true hc546)) ?_
              refine wp_skip ?_
              refine hK545 _ _ ?_
              clear hK545
              refine wp_seq_k (fun K547 hK547 => ?_)
              refine wp_block ?_
              refine wp_seq_k (fun K548 hK548 => ?_)
              refine wp_region_lit ?_
              refine wpl_op (i := 0) rfl (o_val (v := (.int .i64 (m1 : Nat))) hF544 rfl rfl rfl rfl (rn_move (hF544.get rfl)) ?_)
              intro a549 hF550; clear hF544
              refine wpl_op (i := 1) rfl (o_val (v := (.int .i64 (m1 : Nat))) hF550 rfl rfl rfl rfl (rn_assign (hF550.get rfl)) ?_)
              intro a551 hF552; clear hF550
              refine wpList_nil ?_
              refine hK548 _ _ ?_
              clear hK548
              refine wp_seq_k (fun K553 hK553 => ?_)
              have z554 := hdt.sm (i1) (m1) (by omega) (by omega); simp only [T] at z554
              have z555 := hdt.sm (m1) (k1) (by omega) (by omega); simp only [T] at z555
              have z556 := hdt.sm (i1) (k1) (by omega) (by omega); simp only [T] at z556
              have htri : (t43.getD i1 []).getD m1 0 < 1152921504606846976 → (t43.getD m1 []).getD k1 0 < 1152921504606846976 → (t43.getD i1 []).getD k1 0 ≤ (t43.getD i1 []).getD m1 0 + (t43.getD m1 []).getD k1 0 := fun h1 h2 => hdt.tri (by omega) (by omega) (by omega) h1 h2
              have hx558 : ∃ W, w532.drew = W ∧ Ext w532 W := ⟨_, rfl, (Ext.refl _).drew⟩
              obtain ⟨w557, e559, hx558⟩ := hx558
              have z560 := hx558.size
              refine any_start (fun W => Ext w557 W) (fun i => false) 43 #[false, false, false, false, false, false, false, false, false, false, false, false, false, false, false, false, false, false, false, false, false, false, false, false, false, false, false, false, false, false, false, false, false, false, false, false, false, false, false, false, false, false, false] rfl rfl rfl ?_
              rw [e559]; clear e559
              refine any_pure (i := 0) (v := (.slice A40 m41 c42)) hF552 (by decide +kernel) (by decide +kernel) rfl rfl rfl rfl (fun _ _ _ _ h => h) rfl (fun W => (rn_move (hF552.get rfl))) ?_
              intro a561 hF562; clear hF552
              refine any_pure (i := 1) (v := (.int .i64 (i1 : Nat))) hF562 (by decide +kernel) (by decide +kernel) rfl rfl rfl rfl (fun _ _ _ _ h => h) rfl (fun W => (rn_move (hF562.get rfl))) ?_
              intro a563 hF564; clear hF562
              have d575 := (hf537.ext hx558)
              obtain ⟨b565, o566, A567, c568, hA569, hl570, hc571, hr572, z573, z574⟩ := RIss.get (i := i1) d575 (by omega)
              have z576 := hdt.row i1 (by omega)
              refine any_pure (i := 2) (v := (.pointer (some ⟨b565, o566 + i1, none⟩))) hF564 (by decide +kernel) (by decide +kernel) rfl rfl rfl rfl (fun _ _ _ _ h => h) rfl (fun W => (rn_index1 Try.underlying33 (by kernel_rfl : (Try.prog.info? 25).map (·.size) = some 1) ((hF564.get rfl).trans (by rw [hA569])) (hF564.get rfl) (by omega : (0 : Int) ≤ (i1 : Nat)) (by omega : ((i1 : Nat) : Int) < ((m41 : Nat) : Int)))) ?_
              intro a577 hF578; clear hF564
              have hS579 : Ext w557 w557 := (Ext.refl w557)
              refine any_val (i := 3) (v := (.slice A567 ((t43.getD i1 []).length) c568)) hF578 (by decide +kernel) (by decide +kernel) rfl rfl rfl rfl (fun _ _ _ _ h => h) rfl hS579 (fun W hW => (rn_load (isAgg_no Try.underlying25 rfl) (hF578.get rfl) (Ext.keep ((Ext.refl w557).trans hW) hc571))) ?_
              intro a580 hF581; clear hF578
              refine any_pure (i := 4) (v := (.int .i64 (m1 : Nat))) hF581 (by decide +kernel) (by decide +kernel) rfl rfl rfl rfl (fun _ _ _ _ h => h) rfl (fun W => (rn_move (hF581.get rfl))) ?_
              intro a582 hF583; clear hF581
              obtain ⟨b584, o585, hA586, -⟩ := Fl.at hr572 (by omega)
              refine any_pure (i := 5) (v := (.pointer (some ⟨b584, o585 + m1, none⟩))) hF583 (by decide +kernel) (by decide +kernel) rfl rfl rfl rfl (fun _ _ _ _ h => h) rfl (fun W => (rn_index1 Try.underlying25 (by kernel_rfl : (Try.prog.info? 3).map (·.size) = some 1) ((hF583.get rfl).trans (by rw [hA586])) (hF583.get rfl) (by omega : (0 : Int) ≤ (m1 : Nat)) (by omega : ((m1 : Nat) : Int) < (((t43.getD i1 []).length : Nat) : Int)))) ?_
              intro a587 hF588; clear hF583
              refine any_val (i := 6) (v := (.int .i64 ((t43.getD i1 []).getD m1 0))) hF588 (by decide +kernel) (by decide +kernel) rfl rfl rfl rfl (fun _ _ _ _ h => h) rfl hS579 (fun W hW => (rn_load (isAgg_no Try.underlying3 rfl) (hF588.get rfl) (Fl.cellAt (hr572.ext hW) hA586 (intVals_at (i := m1) (by omega))))) ?_
              intro a589 hF590; clear hF588
              refine any_pure (i := 7) (v := (.bool (decide ((((t43.getD i1 []).getD m1 0) : Int) < (1152921504606846976 : Int))))) hF590 (by decide +kernel) (by decide +kernel) rfl rfl rfl rfl (fun _ _ _ _ h => h) rfl (fun W => (rn_lss (hF590.get rfl) rfl)) ?_
              intro a591 hF592; clear hF590
              refine any_pure (i := 8) (v := (.bool (decide ((((t43.getD i1 []).getD m1 0) : Int) < (1152921504606846976 : Int))))) hF592 (by decide +kernel) (by decide +kernel) rfl rfl rfl rfl (fun _ _ _ _ h => h) rfl (fun W => (rn_move (hF592.get rfl))) ?_
              intro a593 hF594; clear hF592
              by_cases hc595 : (((t43.getD i1 []).getD m1 0) : Int) < (1152921504606846976 : Int)
              · skip
                refine any_pure (i := 9) (v := (.slice A40 m41 c42)) hF594 (by decide +kernel) (by decide +kernel) rfl rfl rfl rfl (fun _ _ _ _ h => h) (wanted_guard rfl rfl rfl hF594 rfl (decide_eq_true hc595) rfl) (fun W => (rn_move (hF594.get rfl))) ?_
                intro a596 hF597; clear hF594
                refine any_pure (i := 10) (v := (.int .i64 (m1 : Nat))) hF597 (by decide +kernel) (by decide +kernel) rfl rfl rfl rfl (fun _ _ _ _ h => h) (wanted_guard rfl rfl rfl hF597 rfl (decide_eq_true hc595) rfl) (fun W => (rn_move (hF597.get rfl))) ?_
                intro a598 hF599; clear hF597
                obtain ⟨b600, o601, A602, c603, hA604, hl605, hc606, hr607, z608, z609⟩ := RIss.get (i := m1) d575 (by omega)
                have z610 := hdt.row m1 (by omega)
                refine any_pure (i := 11) (v := (.pointer (some ⟨b600, o601 + m1, none⟩))) hF599 (by decide +kernel) (by decide +kernel) rfl rfl rfl rfl (fun _ _ _ _ h => h) (wanted_guard rfl rfl rfl hF599 rfl (decide_eq_true hc595) rfl) (fun W => (rn_index1 Try.underlying33 (by kernel_rfl : (Try.prog.info? 25).map (·.size) = some 1) ((hF599.get rfl).trans (by rw [hA604])) (hF599.get rfl) (by omega : (0 : Int) ≤ (m1 : Nat)) (by omega : ((m1 : Nat) : Int) < ((m41 : Nat) : Int)))) ?_
                intro a611 hF612; clear hF599
                refine any_val (i := 12) (v := (.slice A602 ((t43.getD m1 []).length) c603)) hF612 (by decide +kernel) (by decide +kernel) rfl rfl rfl rfl (fun _ _ _ _ h => h) (wanted_guard rfl rfl rfl hF612 rfl (decide_eq_true hc595) rfl) hS579 (fun W hW => (rn_load (isAgg_no Try.underlying25 rfl) (hF612.get rfl) (Ext.keep ((Ext.refl w557).trans hW) hc606))) ?_
                intro a613 hF614; clear hF612
                refine any_pure (i := 13) (v := (.int .i64 (k1 : Nat))) hF614 (by decide +kernel) (by decide +kernel) rfl rfl rfl rfl (fun _ _ _ _ h => h) (wanted_guard rfl rfl rfl hF614 rfl (decide_eq_true hc595) rfl) (fun W => (rn_move (hF614.get rfl))) ?_
                intro a615 hF616; clear hF614
                obtain ⟨b617, o618, hA619, -⟩ := Fl.at hr607 (by omega)
                refine any_pure (i := 14) (v := (.pointer (some ⟨b617, o618 + k1, none⟩))) hF616 (by decide +kernel) (by decide +kernel) rfl rfl rfl rfl (fun _ _ _ _ h => h) (wanted_guard rfl rfl rfl hF616 rfl (decide_eq_true hc595) rfl) (fun W => (rn_index1 Try.underlying25 (by kernel_rfl : (Try.prog.info? 3).map (·.size) = some 1) ((hF616.get rfl).trans (by rw [hA619])) (hF616.get rfl) (by omega : (0 : Int) ≤ (k1 : Nat)) (by omega : ((k1 : Nat) : Int) < (((t43.getD m1 []).length : Nat) : Int)))) ?_
                intro a620 hF621; clear hF616
                refine any_val (i := 15) (v := (.int .i64 ((t43.getD m1 []).getD k1 0))) hF621 (by decide +kernel) (by decide +kernel) rfl rfl rfl rfl (fun _ _ _ _ h => h) (wanted_guard rfl rfl rfl hF621 rfl (decide_eq_true hc595) rfl) hS579 (fun W hW => (rn_load (isAgg_no Try.underlying3 rfl) (hF621.get rfl) (Fl.cellAt (hr607.ext hW) hA619 (intVals_at (i := k1) (by omega))))) ?_
                intro a622 hF623; clear hF621
                refine any_pure (i := 16) (v := (.bool (decide ((((t43.getD m1 []).getD k1 0) : Int) < (1152921504606846976 : Int))))) hF623 (by decide +kernel) (by decide +kernel) rfl rfl rfl rfl (fun _ _ _ _ h => h) (wanted_guard rfl rfl rfl hF623 rfl (decide_eq_true hc595) rfl) (fun W => (rn_lss (hF623.get rfl) rfl)) ?_
                intro a624 hF625; clear hF623
                refine any_pure (i := 17) (v := (.bool (decide ((((t43.getD m1 []).getD k1 0) : Int) < (1152921504606846976 : Int))))) hF625 (by decide +kernel) (by decide +kernel) rfl rfl rfl rfl (fun _ _ _ _ h => h) rfl (fun W => (rn_pickT (c_true hF625 rfl (decide_eq_true hc595)) (hF625.get rfl))) ?_
                intro a626 hF627; clear hF625
                refine any_pure (i := 18) (v := (.bool (decide ((((t43.getD m1 []).getD k1 0) : Int) < (1152921504606846976 : Int))))) hF627 (by decide +kernel) (by decide +kernel) rfl rfl rfl rfl (fun _ _ _ _ h => h) rfl (fun W => (rn_move (hF627.get rfl))) ?_
                intro a628 hF629; clear hF627
                by_cases hc630 : (((t43.getD m1 []).getD k1 0) : Int) < (1152921504606846976 : Int)
                · skip
                  refine any_pure (i := 19) (v := (.slice A40 m41 c42)) hF629 (by decide +kernel) (by decide +kernel) rfl rfl rfl rfl (fun _ _ _ _ h => h) (wanted_guard rfl rfl rfl hF629 rfl (decide_eq_true hc630) rfl) (fun W => (rn_move (hF629.get rfl))) ?_
                  intro a631 hF632; clear hF629
                  refine any_pure (i := 20) (v := (.int .i64 (i1 : Nat))) hF632 (by decide +kernel) (by decide +kernel) rfl rfl rfl rfl (fun _ _ _ _ h => h) (wanted_guard rfl rfl rfl hF632 rfl (decide_eq_true hc630) rfl) (fun W => (rn_move (hF632.get rfl))) ?_
                  intro a633 hF634; clear hF632
                  refine any_pure (i := 21) (v := (.pointer (some ⟨b565, o566 + i1, none⟩))) hF634 (by decide +kernel) (by decide +kernel) rfl rfl rfl rfl (fun _ _ _ _ h => h) (wanted_guard rfl rfl rfl hF634 rfl (decide_eq_true hc630) rfl) (fun W => (rn_index1 Try.underlying33 (by kernel_rfl : (Try.prog.info? 25).map (·.size) = some 1) ((hF634.get rfl).trans (by rw [hA569])) (hF634.get rfl) (by omega : (0 : Int) ≤ (i1 : Nat)) (by omega : ((i1 : Nat) : Int) < ((m41 : Nat) : Int)))) ?_
                  intro a635 hF636; clear hF634
                  refine any_val (i := 22) (v := (.slice A567 ((t43.getD i1 []).length) c568)) hF636 (by decide +kernel) (by decide +kernel) rfl rfl rfl rfl (fun _ _ _ _ h => h) (wanted_guard rfl rfl rfl hF636 rfl (decide_eq_true hc630) rfl) hS579 (fun W hW => (rn_load (isAgg_no Try.underlying25 rfl) (hF636.get rfl) (Ext.keep ((Ext.refl w557).trans hW) hc571))) ?_
                  intro a637 hF638; clear hF636
                  refine any_pure (i := 23) (v := (.int .i64 (k1 : Nat))) hF638 (by decide +kernel) (by decide +kernel) rfl rfl rfl rfl (fun _ _ _ _ h => h) (wanted_guard rfl rfl rfl hF638 rfl (decide_eq_true hc630) rfl) (fun W => (rn_move (hF638.get rfl))) ?_
                  intro a639 hF640; clear hF638
                  refine any_pure (i := 24) (v := (.pointer (some ⟨b584, o585 + k1, none⟩))) hF640 (by decide +kernel) (by decide +kernel) rfl rfl rfl rfl (fun _ _ _ _ h => h) (wanted_guard rfl rfl rfl hF640 rfl (decide_eq_true hc630) rfl) (fun W => (rn_index1 Try.underlying25 (by kernel_rfl : (Try.prog.info? 3).map (·.size) = some 1) ((hF640.get rfl).trans (by rw [hA586])) (hF640.get rfl) (by omega : (0 : Int) ≤ (k1 : Nat)) (by omega : ((k1 : Nat) : Int) < (((t43.getD i1 []).length : Nat) : Int)))) ?_
                  intro a641 hF642; clear hF640
                  refine any_val (i := 25) (v := (.int .i64 ((t43.getD i1 []).getD k1 0))) hF642 (by decide +kernel) (by decide +kernel) rfl rfl rfl rfl (fun _ _ _ _ h => h) (wanted_guard rfl rfl rfl hF642 rfl (decide_eq_true hc630) rfl) hS579 (fun W hW => (rn_load (isAgg_no Try.underlying3 rfl) (hF642.get rfl) (Fl.cellAt (hr572.ext hW) hA586 (intVals_at (i := k1) (by omega))))) ?_
                  intro a643 hF644; clear hF642
                  refine any_pure (i := 26) (v := (.slice A40 m41 c42)) hF644 (by decide +kernel) (by decide +kernel) rfl rfl rfl rfl (fun _ _ _ _ h => h) (wanted_guard rfl rfl rfl hF644 rfl (decide_eq_true hc630) rfl) (fun W => (rn_move (hF644.get rfl))) ?_
                  intro a645 hF646; clear hF644
                  refine any_pure (i := 27) (v := (.int .i64 (i1 : Nat))) hF646 (by decide +kernel) (by decide +kernel) rfl rfl rfl rfl (fun _ _ _ _ h => h) (wanted_guard rfl rfl rfl hF646 rfl (decide_eq_true hc630) rfl) (fun W => (rn_move (hF646.get rfl))) ?_
                  intro a647 hF648; clear hF646
                  refine any_pure (i := 28) (v := (.pointer (some ⟨b565, o566 + i1, none⟩))) hF648 (by decide +kernel) (by decide +kernel) rfl rfl rfl rfl (fun _ _ _ _ h => h) (wanted_guard rfl rfl rfl hF648 rfl (decide_eq_true hc630) rfl) (fun W => (rn_index1 Try.underlying33 (by kernel_rfl : (Try.prog.info? 25).map (·.size) = some 1) ((hF648.get rfl).trans (by rw [hA569])) (hF648.get rfl) (by omega : (0 : Int) ≤ (i1 : Nat)) (by omega : ((i1 : Nat) : Int) < ((m41 : Nat) : Int)))) ?_
                  intro a649 hF650; clear hF648
                  refine any_val (i := 29) (v := (.slice A567 ((t43.getD i1 []).length) c568)) hF650 (by decide +kernel) (by decide +kernel) rfl rfl rfl rfl (fun _ _ _ _ h => h) (wanted_guard rfl rfl rfl hF650 rfl (decide_eq_true hc630) rfl) hS579 (fun W hW => (rn_load (isAgg_no Try.underlying25 rfl) (hF650.get rfl) (Ext.keep ((Ext.refl w557).trans hW) hc571))) ?_
                  intro a651 hF652; clear hF650
                  refine any_pure (i := 30) (v := (.int .i64 (m1 : Nat))) hF652 (by decide +kernel) (by decide +kernel) rfl rfl rfl rfl (fun _ _ _ _ h => h) (wanted_guard rfl rfl rfl hF652 rfl (decide_eq_true hc630) rfl) (fun W => (rn_move (hF652.get rfl))) ?_
                  intro a653 hF654; clear hF652
                  refine any_pure (i := 31) (v := (.pointer (some ⟨b584, o585 + m1, none⟩))) hF654 (by decide +kernel) (by decide +kernel) rfl rfl rfl rfl (fun _ _ _ _ h => h) (wanted_guard rfl rfl rfl hF654 rfl (decide_eq_true hc630) rfl) (fun W => (rn_index1 Try.underlying25 (by kernel_rfl : (Try.prog.info? 3).map (·.size) = some 1) ((hF654.get rfl).trans (by rw [hA586])) (hF654.get rfl) (by omega : (0 : Int) ≤ (m1 : Nat)) (by omega : ((m1 : Nat) : Int) < (((t43.getD i1 []).length : Nat) : Int)))) ?_
                  intro a655 hF656; clear hF654
                  refine any_val (i := 32) (v := (.int .i64 ((t43.getD i1 []).getD m1 0))) hF656 (by decide +kernel) (by decide +kernel) rfl rfl rfl rfl (fun _ _ _ _ h => h) (wanted_guard rfl rfl rfl hF656 rfl (decide_eq_true hc630) rfl) hS579 (fun W hW => (rn_load (isAgg_no Try.underlying3 rfl) (hF656.get rfl) (Fl.cellAt (hr572.ext hW) hA586 (intVals_at (i := m1) (by omega))))) ?_
                  intro a657 hF658; clear hF656
                  refine any_pure (i := 33) (v := (.slice A40 m41 c42)) hF658 (by decide +kernel) (by decide +kernel) rfl rfl rfl rfl (fun _ _ _ _ h => h) (wanted_guard rfl rfl rfl hF658 rfl (decide_eq_true hc630) rfl) (fun W => (rn_move (hF658.get rfl))) ?_
                  intro a659 hF660; clear hF658
                  refine any_pure (i := 34) (v := (.int .i64 (m1 : Nat))) hF660 (by decide +kernel) (by decide +kernel) rfl rfl rfl rfl (fun _ _ _ _ h => h) (wanted_guard rfl rfl rfl hF660 rfl (decide_eq_true hc630) rfl) (fun W => (rn_move (hF660.get rfl))) ?_
                  intro a661 hF662; clear hF660
                  refine any_pure (i := 35) (v := (.pointer (some ⟨b600, o601 + m1, none⟩))) hF662 (by decide +kernel) (by decide +kernel) rfl rfl rfl rfl (fun _ _ _ _ h => h) (wanted_guard rfl rfl rfl hF662 rfl (decide_eq_true hc630) rfl) (fun W => (rn_index1 Try.underlying33 (by kernel_rfl : (Try.prog.info? 25).map (·.size) = some 1) ((hF662.get rfl).trans (by rw [hA604])) (hF662.get rfl) (by omega : (0 : Int) ≤ (m1 : Nat)) (by omega : ((m1 : Nat) : Int) < ((m41 : Nat) : Int)))) ?_
                  intro a663 hF664; clear hF662
                  refine any_val (i := 36) (v := (.slice A602 ((t43.getD m1 []).length) c603)) hF664 (by decide +kernel) (by decide +kernel) rfl rfl rfl rfl (fun _ _ _ _ h => h) (wanted_guard rfl rfl rfl hF664 rfl (decide_eq_true hc630) rfl) hS579 (fun W hW => (rn_load (isAgg_no Try.underlying25 rfl) (hF664.get rfl) (Ext.keep ((Ext.refl w557).trans hW) hc606))) ?_
                  intro a665 hF666; clear hF664
                  refine any_pure (i := 37) (v := (.int .i64 (k1 : Nat))) hF666 (by decide +kernel) (by decide +kernel) rfl rfl rfl rfl (fun _ _ _ _ h => h) (wanted_guard rfl rfl rfl hF666 rfl (decide_eq_true hc630) rfl) (fun W => (rn_move (hF666.get rfl))) ?_
                  intro a667 hF668; clear hF666
                  refine any_pure (i := 38) (v := (.pointer (some ⟨b617, o618 + k1, none⟩))) hF668 (by decide +kernel) (by decide +kernel) rfl rfl rfl rfl (fun _ _ _ _ h => h) (wanted_guard rfl rfl rfl hF668 rfl (decide_eq_true hc630) rfl) (fun W => (rn_index1 Try.underlying25 (by kernel_rfl : (Try.prog.info? 3).map (·.size) = some 1) ((hF668.get rfl).trans (by rw [hA619])) (hF668.get rfl) (by omega : (0 : Int) ≤ (k1 : Nat)) (by omega : ((k1 : Nat) : Int) < (((t43.getD m1 []).length : Nat) : Int)))) ?_
                  intro a669 hF670; clear hF668
                  refine any_val (i := 39) (v := (.int .i64 ((t43.getD m1 []).getD k1 0))) hF670 (by decide +kernel) (by decide +kernel) rfl rfl rfl rfl (fun _ _ _ _ h => h) (wanted_guard rfl rfl rfl hF670 rfl (decide_eq_true hc630) rfl) hS579 (fun W hW => (rn_load (isAgg_no Try.underlying3 rfl) (hF670.get rfl) (Fl.cellAt (hr607.ext hW) hA619 (intVals_at (i := k1) (by omega))))) ?_
                  intro a671 hF672; clear hF670
                  refine any_pure (i := 40) (v := (.int .i64 (((t43.getD i1 []).getD m1 0) + ((t43.getD m1 []).getD k1 0)))) hF672 (by decide +kernel) (by decide +kernel) rfl rfl rfl rfl (fun _ _ _ _ h => h) (wanted_guard rfl rfl rfl hF672 rfl (decide_eq_true hc630) rfl) (fun W => (rn_add (hF672.get rfl) (hF672.get rfl) (by omega) (by omega))) ?_
                  intro a673 hF674; clear hF672
                  refine any_pure (i := 41) (v := (.bool (decide ((((t43.getD i1 []).getD m1 0) + ((t43.getD m1 []).getD k1 0) : Int) < (((t43.getD i1 []).getD k1 0) : Int))))) hF674 (by decide +kernel) (by decide +kernel) rfl rfl rfl rfl (fun _ _ _ _ h => h) (wanted_guard rfl rfl rfl hF674 rfl (decide_eq_true hc630) rfl) (fun W => (rn_gtr (hF674.get rfl) (hF674.get rfl))) ?_
                  intro a675 hF676; clear hF674
                  refine any_pure (i := 42) (v := (.bool (decide ((((t43.getD i1 []).getD m1 0) + ((t43.getD m1 []).getD k1 0) : Int) < (((t43.getD i1 []).getD k1 0) : Int))))) hF676 (by decide +kernel) (by decide +kernel) rfl rfl rfl rfl (fun _ _ _ _ h => h) rfl (fun W => (rn_pickT (c_true hF676 rfl (decide_eq_true hc630)) (hF676.get rfl))) ?_
                  intro a677 hF678; clear hF676
                  refine any_nil (by decide +kernel) ?_
                  refine hK553 _ _ ?_
                  clear hK553
                  have hF679 := ((((((((((((((((((((((((((hF678.nil.cons (hF678.get (t := 133) (v := (.bool (decide ((((t43.getD i1 []).getD m1 0) + ((t43.getD m1 []).getD k1 0) : Int) < (((t43.getD i1 []).getD k1 0) : Int))))) rfl)).cons (hF678.get (t := 10) (v := (.int .i64 (m1 : Nat))) rfl)).cons (hF678.get (t := 89) (v := (.bool (decide (((m1 : Nat) : Int) < ((m41 : Nat) : Int))))) rfl)).cons (hF678.get (t := 88) (v := (.int .i64 (m1 : Nat))) rfl)).cons (hF678.get (t := 87) (v := (.int .i64 (m41 : Nat))) rfl)).cons (hF678.get (t := 9) (v := (.int .i64 (k1 : Nat))) rfl)).cons (hF678.get (t := 84) (v := (.bool (decide (((k1 : Nat) : Int) < ((m41 : Nat) : Int))))) rfl)).cons (hF678.get (t := 83) (v := (.int .i64 (k1 : Nat))) rfl)).cons (hF678.get (t := 82) (v := (.int .i64 (m41 : Nat))) rfl)).cons (hF678.get (t := 8) (v := (.int .i64 (i1 : Nat))) rfl)).cons (hF678.get (t := 79) (v := (.bool (decide (((i1 : Nat) : Int) < ((m41 : Nat) : Int))))) rfl)).cons (hF678.get (t := 78) (v := (.int .i64 (i1 : Nat))) rfl)).cons (hF678.get (t := 77) (v := (.int .i64 (m41 : Nat))) rfl)).cons (hF678.get (t := 36) (v := (.bool (decide (((k : Nat) : Int) < ((l.length : Nat) : Int))))) rfl)).cons (hF678.get (t := 35) (v := (.int .i64 (k : Nat))) rfl)).cons (hF678.get (t := 34) (v := (.int .i64 (l.length : Nat))) rfl)).cons (hF678.get (t := 33) (v := (.slice A l.length c)) rfl)).cons (hF678.get (t := 31) (v := (.bool false)) rfl)).cons (hF678.get (t := 23) (v := (.bool (decide ((er48 : Int) ≠ (0 : Int))))) rfl)).cons (hF678.get (t := 5) (v := (.int .i64 er48)) rfl)).cons (hF678.get (t := 3) (v := (.slice A40 m41 c42)) rfl)).cons (hF678.get (t := 15) (v := (.bool (!(few n l)))) rfl)).cons (hF678.get (t := 12) (v := (.bool false)) rfl)).cons (hF678.get (t := 2) (v := (.bool false)) rfl)).cons (hF678.get (t := 1) (v := (.pointer (some ⟨g2, 0, none⟩))) rfl)).cons (hF678.get (t := 0) (v := (.agg #[(.int .i64 n), (.slice A l.length c)])) rfl))
                  clear hF678
                  by_cases hc680 : (((t43.getD i1 []).getD m1 0) + ((t43.getD m1 []).getD k1 0) : Int) < (((t43.getD i1 []).getD k1 0) : Int)
                  · skip
                    refine wp_cond_true (c_true hF679 rfl (decide_eq_true hc680)) ?_
                    refine wp_seq_k (fun K681 hK681 => ?_)
                    refine wp_region_lit ?_
                    refine wpl_op (i := 0) rfl (o_val (v := (.bool false)) hF679 rfl rfl rfl rfl (rn_assign rfl) ?_)
                    intro a682 hF683; clear hF679
                    refine wpList_nil ?_
                    refine hK681 _ _ ?_
                    clear hK681
                    refine wp_ret ?_
                    refine ret_block ?_
                    refine ret_then ?_
                    refine ret_then ?_
                    refine ret_block ?_
                    refine ret_block ?_
                    refine ret_then ?_
                    refine ret_then ?_
                    refine ret_block ?_
                    refine ret_then ?_
                    refine ret_block ?_
                    refine ret_then ?_
                    refine ret_then ?_
                    refine ret_block ?_
                    refine ret_then ?_
                    refine ret1 hF683 rfl rfl ?_
                    exfalso; omega
                  · skip
                    refine wp_cond_false (c_false hF679 rfl (decide_eq_false hc680)) ?_
                    refine wp_skip ?_
                    refine hK547 _ _ ?_
                    clear hK547
                    refine wp_region_lit ?_
                    refine wpl_op (i := 0) rfl (o_val (v := (.int .i64 (m1 + 1 : Nat))) hF679 rfl rfl rfl rfl (rn_addN (a := m1) (b := 1) (hF679.get rfl) rfl (by omega)) ?_)
                    intro a684 hF685; clear hF679
                    refine wpl_op (i := 1) rfl (o_val (v := (.int .i64 (m1 + 1 : Nat))) hF685 rfl rfl rfl rfl (rn_move (hF685.get rfl)) ?_)
                    intro a686 hF687; clear hF685
                    refine wpList_nil ?_
                    have b688 : Blk w557 g2 24 [(.int .i64 n), (.slice A l.length c)] := (b536.ext hx558)
                    refine ⟨⟨(m1 + 1), (((((((((((((((((((((((hF687.nil.cons (q_get hF687 (t := 88) rfl (by first | rfl | (congr 1; omega) | (congr 1; done)))).cons (q_get hF687 (t := 87) rfl rfl)).cons (q_get hF687 (t := 9) rfl rfl)).cons (q_get hF687 (t := 84) rfl rfl)).cons (q_get hF687 (t := 83) rfl rfl)).cons (q_get hF687 (t := 82) rfl rfl)).cons (q_get hF687 (t := 8) rfl rfl)).cons (q_get hF687 (t := 79) rfl rfl)).cons (q_get hF687 (t := 78) rfl rfl)).cons (q_get hF687 (t := 77) rfl rfl)).cons (q_get hF687 (t := 36) rfl rfl)).cons (q_get hF687 (t := 35) rfl rfl)).cons (q_get hF687 (t := 34) rfl rfl)).cons (q_get hF687 (t := 33) rfl rfl)).cons (q_get hF687 (t := 31) rfl rfl)).cons (q_get hF687 (t := 23) rfl rfl)).cons (q_get hF687 (t := 5) rfl rfl)).cons (q_get hF687 (t := 3) rfl rfl)).cons (q_get hF687 (t := 15) rfl rfl)).cons (q_get hF687 (t := 12) rfl rfl)).cons (q_get hF687 (t := 2) rfl rfl)).cons (q_get hF687 (t := 1) rfl rfl)).cons (q_get hF687 (t := 0) rfl rfl)), (by omega), (((Ext.refl w).trans hx534).trans hx558), b688, d575, (by omega)⟩, ?_⟩
                    rw [hF687.get (t := 88) rfl, hL539.get (t := 88) rfl]; simp [intOf] <;> omega
                · skip
                  refine any_pass (i := 19) hF629 (by decide +kernel) (by decide +kernel) rfl rfl rfl rfl (fun _ _ _ _ h => h) (unwanted_guard rfl rfl rfl hF629 rfl (decide_eq_false hc630) rfl) ?_
                  intro a689 hF690; clear hF629
                  refine any_pass (i := 20) hF690 (by decide +kernel) (by decide +kernel) rfl rfl rfl rfl (fun _ _ _ _ h => h) (unwanted_guard rfl rfl rfl hF690 rfl (decide_eq_false hc630) rfl) ?_
                  intro a691 hF692; clear hF690
                  refine any_pass (i := 21) hF692 (by decide +kernel) (by decide +kernel) rfl rfl rfl rfl (fun _ _ _ _ h => h) (unwanted_guard rfl rfl rfl hF692 rfl (decide_eq_false hc630) rfl) ?_
                  intro a693 hF694; clear hF692
                  refine any_pass (i := 22) hF694 (by decide +kernel) (by decide +kernel) rfl rfl rfl rfl (fun _ _ _ _ h => h) (unwanted_guard rfl rfl rfl hF694 rfl (decide_eq_false hc630) rfl) ?_
                  intro a695 hF696; clear hF694
                  refine any_pass (i := 23) hF696 (by decide +kernel) (by decide +kernel) rfl rfl rfl rfl (fun _ _ _ _ h => h) (unwanted_guard rfl rfl rfl hF696 rfl (decide_eq_false hc630) rfl) ?_
                  intro a697 hF698; clear hF696
                  refine any_pass (i := 24) hF698 (by decide +kernel) (by decide +kernel) rfl rfl rfl rfl (fun _ _ _ _ h => h) (unwanted_guard rfl rfl rfl hF698 rfl (decide_eq_false hc630) rfl) ?_
                  intro a699 hF700; clear hF698
                  refine any_pass (i := 25) hF700 (by decide +kernel) (by decide +kernel) rfl rfl rfl rfl (fun _ _ _ _ h => h) (unwanted_guard rfl rfl rfl hF700 rfl (decide_eq_false hc630) rfl) ?_
                  intro a701 hF702; clear hF700
                  refine any_pass (i := 26) hF702 (by decide +kernel) (by decide +kernel) rfl rfl rfl rfl (fun _ _ _ _ h => h) (unwanted_guard rfl rfl rfl hF702 rfl (decide_eq_false hc630) rfl) ?_
                  intro a703 hF704; clear hF702
                  refine any_pass (i := 27) hF704 (by decide +kernel) (by decide +kernel) rfl rfl rfl rfl (fun _ _ _ _ h => h) (unwanted_guard rfl rfl rfl hF704 rfl (decide_eq_false hc630) rfl) ?_
                  intro a705 hF706; clear hF704
                  refine any_pass (i := 28) hF706 (by decide +kernel) (by decide +kernel) rfl rfl rfl rfl (fun _ _ _ _ h => h) (unwanted_guard rfl rfl rfl hF706 rfl (decide_eq_false hc630) rfl) ?_
                  intro a707 hF708; clear hF706
                  refine any_pass (i := 29) hF708 (by decide +kernel) (by decide +kernel) rfl rfl rfl rfl (fun _ _ _ _ h => h) (unwanted_guard rfl rfl rfl hF708 rfl (decide_eq_false hc630) rfl) ?_
                  intro a709 hF710; clear hF708
                  refine any_pass (i := 30) hF710 (by decide +kernel) (by decide +kernel) rfl rfl rfl rfl (fun _ _ _ _ h => h) (unwanted_guard rfl rfl rfl hF710 rfl (decide_eq_false hc630) rfl) ?_
                  intro a711 hF712; clear hF710
                  refine any_pass (i := 31) hF712 (by decide +kernel) (by decide +kernel) rfl rfl rfl rfl (fun _ _ _ _ h => h) (unwanted_guard rfl rfl rfl hF712 rfl (decide_eq_false hc630) rfl) ?_
                  intro a713 hF714; clear hF712
                  refine any_pass (i := 32) hF714 (by decide +kernel) (by decide +kernel) rfl rfl rfl rfl (fun _ _ _ _ h => h) (unwanted_guard rfl rfl rfl hF714 rfl (decide_eq_false hc630) rfl) ?_
                  intro a715 hF716; clear hF714
                  refine any_pass (i := 33) hF716 (by decide +kernel) (by decide +kernel) rfl rfl rfl rfl (fun _ _ _ _ h => h) (unwanted_guard rfl rfl rfl hF716 rfl (decide_eq_false hc630) rfl) ?_
                  intro a717 hF718; clear hF716
                  refine any_pass (i := 34) hF718 (by decide +kernel) (by decide +kernel) rfl rfl rfl rfl (fun _ _ _ _ h => h) (unwanted_guard rfl rfl rfl hF718 rfl (decide_eq_false hc630) rfl) ?_
                  intro a719 hF720; clear hF718
                  refine any_pass (i := 35) hF720 (by decide +kernel) (by decide +kernel) rfl rfl rfl rfl (fun _ _ _ _ h => h) (unwanted_guard rfl rfl rfl hF720 rfl (decide_eq_false hc630) rfl) ?_
                  intro a721 hF722; clear hF720
                  refine any_pass (i := 36) hF722 (by decide +kernel) (by decide +kernel) rfl rfl rfl rfl (fun _ _ _ _ h => h) (unwanted_guard rfl rfl rfl hF722 rfl (decide_eq_false hc630) rfl) ?_
                  intro a723 hF724; clear hF722
                  refine any_pass (i := 37) hF724 (by decide +kernel) (by decide +kernel) rfl rfl rfl rfl (fun _ _ _ _ h => h) (unwanted_guard rfl rfl rfl hF724 rfl (decide_eq_false hc630) rfl) ?_
                  intro a725 hF726; clear hF724
                  refine any_pass (i := 38) hF726 (by decide +kernel) (by decide +kernel) rfl rfl rfl rfl (fun _ _ _ _ h => h) (unwanted_guard rfl rfl rfl hF726 rfl (decide_eq_false hc630) rfl) ?_
                  intro a727 hF728; clear hF726
                  refine any_pass (i := 39) hF728 (by decide +kernel) (by decide +kernel) rfl rfl rfl rfl (fun _ _ _ _ h => h) (unwanted_guard rfl rfl rfl hF728 rfl (decide_eq_false hc630) rfl) ?_
                  intro a729 hF730; clear hF728
                  refine any_pass (i := 40) hF730 (by decide +kernel) (by decide +kernel) rfl rfl rfl rfl (fun _ _ _ _ h => h) (unwanted_guard rfl rfl rfl hF730 rfl (decide_eq_false hc630) rfl) ?_
                  intro a731 hF732; clear hF730
                  refine any_pass (i := 41) hF732 (by decide +kernel) (by decide +kernel) rfl rfl rfl rfl (fun _ _ _ _ h => h) (unwanted_guard rfl rfl rfl hF732 rfl (decide_eq_false hc630) rfl) ?_
                  intro a733 hF734; clear hF732
                  refine any_pure (i := 42) (v := (.bool false)) hF734 (by decide +kernel) (by decide +kernel) rfl rfl rfl rfl (fun _ _ _ _ h => h) rfl (fun W => (rn_pickF (c_false hF734 rfl (decide_eq_false hc630)) rfl)) ?_
                  intro a735 hF736; clear hF734
                  refine any_nil (by decide +kernel) ?_
                  refine hK553 _ _ ?_
                  clear hK553
                  have hF737 := ((((((((((((((((((((((((((hF736.nil.cons (hF736.get (t := 133) (v := (.bool false)) rfl)).cons (hF736.get (t := 10) (v := (.int .i64 (m1 : Nat))) rfl)).cons (hF736.get (t := 89) (v := (.bool (decide (((m1 : Nat) : Int) < ((m41 : Nat) : Int))))) rfl)).cons (hF736.get (t := 88) (v := (.int .i64 (m1 : Nat))) rfl)).cons (hF736.get (t := 87) (v := (.int .i64 (m41 : Nat))) rfl)).cons (hF736.get (t := 9) (v := (.int .i64 (k1 : Nat))) rfl)).cons (hF736.get (t := 84) (v := (.bool (decide (((k1 : Nat) : Int) < ((m41 : Nat) : Int))))) rfl)).cons (hF736.get (t := 83) (v := (.int .i64 (k1 : Nat))) rfl)).cons (hF736.get (t := 82) (v := (.int .i64 (m41 : Nat))) rfl)).cons (hF736.get (t := 8) (v := (.int .i64 (i1 : Nat))) rfl)).cons (hF736.get (t := 79) (v := (.bool (decide (((i1 : Nat) : Int) < ((m41 : Nat) : Int))))) rfl)).cons (hF736.get (t := 78) (v := (.int .i64 (i1 : Nat))) rfl)).cons (hF736.get (t := 77) (v := (.int .i64 (m41 : Nat))) rfl)).cons (hF736.get (t := 36) (v := (.bool (decide (((k : Nat) : Int) < ((l.length : Nat) : Int))))) rfl)).cons (hF736.get (t := 35) (v := (.int .i64 (k : Nat))) rfl)).cons (hF736.get (t := 34) (v := (.int .i64 (l.length : Nat))) rfl)).cons (hF736.get (t := 33) (v := (.slice A l.length c)) rfl)).cons (hF736.get (t := 31) (v := (.bool false)) rfl)).cons (hF736.get (t := 23) (v := (.bool (decide ((er48 : Int) ≠ (0 : Int))))) rfl)).cons (hF736.get (t := 5) (v := (.int .i64 er48)) rfl)).cons (hF736.get (t := 3) (v := (.slice A40 m41 c42)) rfl)).cons (hF736.get (t := 15) (v := (.bool (!(few n l)))) rfl)).cons (hF736.get (t := 12) (v := (.bool false)) rfl)).cons (hF736.get (t := 2) (v := (.bool false)) rfl)).cons (hF736.get (t := 1) (v := (.pointer (some ⟨g2, 0, none⟩))) rfl)).cons (hF736.get (t := 0) (v := (.agg #[(.int .i64 n), (.slice A l.length c)])) rfl))
                  clear hF736
                  refine wp_cond_false (c_false hF737 rfl rfl) ?_
                  refine wp_skip ?_
                  refine hK547 _ _ ?_
                  clear hK547
                  refine wp_region_lit ?_
                  refine wpl_op (i := 0) rfl (o_val (v := (.int .i64 (m1 + 1 : Nat))) hF737 rfl rfl rfl rfl (rn_addN (a := m1) (b := 1) (hF737.get rfl) rfl (by omega)) ?_)
                  intro a738 hF739; clear hF737
                  refine wpl_op (i := 1) rfl (o_val (v := (.int .i64 (m1 + 1 : Nat))) hF739 rfl rfl rfl rfl (rn_move (hF739.get rfl)) ?_)
                  intro a740 hF741; clear hF739
                  refine wpList_nil ?_
                  have b742 : Blk w557 g2 24 [(.int .i64 n), (.slice A l.length c)] := (b536.ext hx558)
                  refine ⟨⟨(m1 + 1), (((((((((((((((((((((((hF741.nil.cons (q_get hF741 (t := 88) rfl (by first | rfl | (congr 1; omega) | (congr 1; done)))).cons (q_get hF741 (t := 87) rfl rfl)).cons (q_get hF741 (t := 9) rfl rfl)).cons (q_get hF741 (t := 84) rfl rfl)).cons (q_get hF741 (t := 83) rfl rfl)).cons (q_get hF741 (t := 82) rfl rfl)).cons (q_get hF741 (t := 8) rfl rfl)).cons (q_get hF741 (t := 79) rfl rfl)).cons (q_get hF741 (t := 78) rfl rfl)).cons (q_get hF741 (t := 77) rfl rfl)).cons (q_get hF741 (t := 36) rfl rfl)).cons (q_get hF741 (t := 35) rfl rfl)).cons (q_get hF741 (t := 34) rfl rfl)).cons (q_get hF741 (t := 33) rfl rfl)).cons (q_get hF741 (t := 31) rfl rfl)).cons (q_get hF741 (t := 23) rfl rfl)).cons (q_get hF741 (t := 5) rfl rfl)).cons (q_get hF741 (t := 3) rfl rfl)).cons (q_get hF741 (t := 15) rfl rfl)).cons (q_get hF741 (t := 12) rfl rfl)).cons (q_get hF741 (t := 2) rfl rfl)).cons (q_get hF741 (t := 1) rfl rfl)).cons (q_get hF741 (t := 0) rfl rfl)), (by omega), (((Ext.refl w).trans hx534).trans hx558), b742, d575, (by omega)⟩, ?_⟩
                  rw [hF741.get (t := 88) rfl, hL539.get (t := 88) rfl]; simp [intOf] <;> omega
              · skip
                refine any_pass (i := 9) hF594 (by decide +kernel) (by decide +kernel) rfl rfl rfl rfl (fun _ _ _ _ h => h) (unwanted_guard rfl rfl rfl hF594 rfl (decide_eq_false hc595) rfl) ?_
                intro a743 hF744; clear hF594
                refine any_pass (i := 10) hF744 (by decide +kernel) (by decide +kernel) rfl rfl rfl rfl (fun _ _ _ _ h => h) (unwanted_guard rfl rfl rfl hF744 rfl (decide_eq_false hc595) rfl) ?_
                intro a745 hF746; clear hF744
                refine any_pass (i := 11) hF746 (by decide +kernel) (by decide +kernel) rfl rfl rfl rfl (fun _ _ _ _ h => h) (unwanted_guard rfl rfl rfl hF746 rfl (decide_eq_false hc595) rfl) ?_
                intro a747 hF748; clear hF746
                refine any_pass (i := 12) hF748 (by decide +kernel) (by decide +kernel) rfl rfl rfl rfl (fun _ _ _ _ h => h) (unwanted_guard rfl rfl rfl hF748 rfl (decide_eq_false hc595) rfl) ?_
                intro a749 hF750; clear hF748
                refine any_pass (i := 13) hF750 (by decide +kernel) (by decide +kernel) rfl rfl rfl rfl (fun _ _ _ _ h => h) (unwanted_guard rfl rfl rfl hF750 rfl (decide_eq_false hc595) rfl) ?_
                intro a751 hF752; clear hF750
                refine any_pass (i := 14) hF752 (by decide +kernel) (by decide +kernel) rfl rfl rfl rfl (fun _ _ _ _ h => h) (unwanted_guard rfl rfl rfl hF752 rfl (decide_eq_false hc595) rfl) ?_
                intro a753 hF754; clear hF752
                refine any_pass (i := 15) hF754 (by decide +kernel) (by decide +kernel) rfl rfl rfl rfl (fun _ _ _ _ h => h) (unwanted_guard rfl rfl rfl hF754 rfl (decide_eq_false hc595) rfl) ?_
                intro a755 hF756; clear hF754
                refine any_pass (i := 16) hF756 (by decide +kernel) (by decide +kernel) rfl rfl rfl rfl (fun _ _ _ _ h => h) (unwanted_guard rfl rfl rfl hF756 rfl (decide_eq_false hc595) rfl) ?_
                intro a757 hF758; clear hF756
                refine any_pure (i := 17) (v := (.bool false)) hF758 (by decide +kernel) (by decide +kernel) rfl rfl rfl rfl (fun _ _ _ _ h => h) rfl (fun W => (rn_pickF (c_false hF758 rfl (decide_eq_false hc595)) rfl)) ?_
                intro a759 hF760; clear hF758
                refine any_pure (i := 18) (v := (.bool false)) hF760 (by decide +kernel) (by decide +kernel) rfl rfl rfl rfl (fun _ _ _ _ h => h) rfl (fun W => (rn_move (hF760.get rfl))) ?_
                intro a761 hF762; clear hF760
                refine any_pass (i := 19) hF762 (by decide +kernel) (by decide +kernel) rfl rfl rfl rfl (fun _ _ _ _ h => h) (unwanted_guard rfl rfl rfl hF762 rfl rfl rfl) ?_
                intro a763 hF764; clear hF762
                refine any_pass (i := 20) hF764 (by decide +kernel) (by decide +kernel) rfl rfl rfl rfl (fun _ _ _ _ h => h) (unwanted_guard rfl rfl rfl hF764 rfl rfl rfl) ?_
                intro a765 hF766; clear hF764
                refine any_pass (i := 21) hF766 (by decide +kernel) (by decide +kernel) rfl rfl rfl rfl (fun _ _ _ _ h => h) (unwanted_guard rfl rfl rfl hF766 rfl rfl rfl) ?_
                intro a767 hF768; clear hF766
                refine any_pass (i := 22) hF768 (by decide +kernel) (by decide +kernel) rfl rfl rfl rfl (fun _ _ _ _ h => h) (unwanted_guard rfl rfl rfl hF768 rfl rfl rfl) ?_
                intro a769 hF770; clear hF768
                refine any_pass (i := 23) hF770 (by decide +kernel) (by decide +kernel) rfl rfl rfl rfl (fun _ _ _ _ h => h) (unwanted_guard rfl rfl rfl hF770 rfl rfl rfl) ?_
                intro a771 hF772; clear hF770
                refine any_pass (i := 24) hF772 (by decide +kernel) (by decide +kernel) rfl rfl rfl rfl (fun _ _ _ _ h => h) (unwanted_guard rfl rfl rfl hF772 rfl rfl rfl) ?_
                intro a773 hF774; clear hF772
                refine any_pass (i := 25) hF774 (by decide +kernel) (by decide +kernel) rfl rfl rfl rfl (fun _ _ _ _ h => h) (unwanted_guard rfl rfl rfl hF774 rfl rfl rfl) ?_
                intro a775 hF776; clear hF774
                refine any_pass (i := 26) hF776 (by decide +kernel) (by decide +kernel) rfl rfl rfl rfl (fun _ _ _ _ h => h) (unwanted_guard rfl rfl rfl hF776 rfl rfl rfl) ?_
                intro a777 hF778; clear hF776
                refine any_pass (i := 27) hF778 (by decide +kernel) (by decide +kernel) rfl rfl rfl rfl (fun _ _ _ _ h => h) (unwanted_guard rfl rfl rfl hF778 rfl rfl rfl) ?_
                intro a779 hF780; clear hF778
                refine any_pass (i := 28) hF780 (by decide +kernel) (by decide +kernel) rfl rfl rfl rfl (fun _ _ _ _ h => h) (unwanted_guard rfl rfl rfl hF780 rfl rfl rfl) ?_
                intro a781 hF782; clear hF780
                refine any_pass (i := 29) hF782 (by decide +kernel) (by decide +kernel) rfl rfl rfl rfl (fun _ _ _ _ h => h) (unwanted_guard rfl rfl rfl hF782 rfl rfl rfl) ?_
                intro a783 hF784; clear hF782
                refine any_pass (i := 30) hF784 (by decide +kernel) (by decide +kernel) rfl rfl rfl rfl (fun _ _ _ _ h => h) (unwanted_guard rfl rfl rfl hF784 rfl rfl rfl) ?_
                intro a785 hF786; clear hF784
                refine any_pass (i := 31) hF786 (by decide +kernel) (by decide +kernel) rfl rfl rfl rfl (fun _ _ _ _ h => h) (unwanted_guard rfl rfl rfl hF786 rfl rfl rfl) ?_
                intro a787 hF788; clear hF786
                refine any_pass (i := 32) hF788 (by decide +kernel) (by decide +kernel) rfl rfl rfl rfl (fun _ _ _ _ h => h) (unwanted_guard rfl rfl rfl hF788 rfl rfl rfl) ?_
                intro a789 hF790; clear hF788
                refine any_pass (i := 33) hF790 (by decide +kernel) (by decide +kernel) rfl rfl rfl rfl (fun _ _ _ _ h => h) (unwanted_guard rfl rfl rfl hF790 rfl rfl rfl) ?_
                intro a791 hF792; clear hF790
                refine any_pass (i := 34) hF792 (by decide +kernel) (by decide +kernel) rfl rfl rfl rfl (fun _ _ _ _ h => h) (unwanted_guard rfl rfl rfl hF792 rfl rfl rfl) ?_
                intro a793 hF794; clear hF792
                refine any_pass (i := 35) hF794 (by decide +kernel) (by decide +kernel) rfl rfl rfl rfl (fun _ _ _ _ h => h) (unwanted_guard rfl rfl rfl hF794 rfl rfl rfl) ?_
                intro a795 hF796; clear hF794
                refine any_pass (i := 36) hF796 (by decide +kernel) (by decide +kernel) rfl rfl rfl rfl (fun _ _ _ _ h => h) (unwanted_guard rfl rfl rfl hF796 rfl rfl rfl) ?_
                intro a797 hF798; clear hF796
                refine any_pass (i := 37) hF798 (by decide +kernel) (by decide +kernel) rfl rfl rfl rfl (fun _ _ _ _ h => h) (unwanted_guard rfl rfl rfl hF798 rfl rfl rfl) ?_
                intro a799 hF800; clear hF798
                refine any_pass (i := 38) hF800 (by decide +kernel) (by decide +kernel) rfl rfl rfl rfl (fun _ _ _ _ h => h) (unwanted_guard rfl rfl rfl hF800 rfl rfl rfl) ?_
                intro a801 hF802; clear hF800
                refine any_pass (i := 39) hF802 (by decide +kernel) (by decide +kernel) rfl rfl rfl rfl (fun _ _ _ _ h => h) (unwanted_guard rfl rfl rfl hF802 rfl rfl rfl) ?_
                intro a803 hF804; clear hF802
                refine any_pass (i := 40) hF804 (by decide +kernel) (by decide +kernel) rfl rfl rfl rfl (fun _ _ _ _ h => h) (unwanted_guard rfl rfl rfl hF804 rfl rfl rfl) ?_
                intro a805 hF806; clear hF804
                refine any_pass (i := 41) hF806 (by decide +kernel) (by decide +kernel) rfl rfl rfl rfl (fun _ _ _ _ h => h) (unwanted_guard rfl rfl rfl hF806 rfl rfl rfl) ?_
                intro a807 hF808; clear hF806
                refine any_pure (i := 42) (v := (.bool false)) hF808 (by decide +kernel) (by decide +kernel) rfl rfl rfl rfl (fun _ _ _ _ h => h) rfl (fun W => (rn_pickF (c_false hF808 rfl rfl) rfl)) ?_
                intro a809 hF810; clear hF808
                refine any_nil (by decide +kernel) ?_
                refine hK553 _ _ ?_
                clear hK553
                have hF811 := ((((((((((((((((((((((((((hF810.nil.cons (hF810.get (t := 133) (v := (.bool false)) rfl)).cons (hF810.get (t := 10) (v := (.int .i64 (m1 : Nat))) rfl)).cons (hF810.get (t := 89) (v := (.bool (decide (((m1 : Nat) : Int) < ((m41 : Nat) : Int))))) rfl)).cons (hF810.get (t := 88) (v := (.int .i64 (m1 : Nat))) rfl)).cons (hF810.get (t := 87) (v := (.int .i64 (m41 : Nat))) rfl)).cons (hF810.get (t := 9) (v := (.int .i64 (k1 : Nat))) rfl)).cons (hF810.get (t := 84) (v := (.bool (decide (((k1 : Nat) : Int) < ((m41 : Nat) : Int))))) rfl)).cons (hF810.get (t := 83) (v := (.int .i64 (k1 : Nat))) rfl)).cons (hF810.get (t := 82) (v := (.int .i64 (m41 : Nat))) rfl)).cons (hF810.get (t := 8) (v := (.int .i64 (i1 : Nat))) rfl)).cons (hF810.get (t := 79) (v := (.bool (decide (((i1 : Nat) : Int) < ((m41 : Nat) : Int))))) rfl)).cons (hF810.get (t := 78) (v := (.int .i64 (i1 : Nat))) rfl)).cons (hF810.get (t := 77) (v := (.int .i64 (m41 : Nat))) rfl)).cons (hF810.get (t := 36) (v := (.bool (decide (((k : Nat) : Int) < ((l.length : Nat) : Int))))) rfl)).cons (hF810.get (t := 35) (v := (.int .i64 (k : Nat))) rfl)).cons (hF810.get (t := 34) (v := (.int .i64 (l.length : Nat))) rfl)).cons (hF810.get (t := 33) (v := (.slice A l.length c)) rfl)).cons (hF810.get (t := 31) (v := (.bool false)) rfl)).cons (hF810.get (t := 23) (v := (.bool (decide ((er48 : Int) ≠ (0 : Int))))) rfl)).cons (hF810.get (t := 5) (v := (.int .i64 er48)) rfl)).cons (hF810.get (t := 3) (v := (.slice A40 m41 c42)) rfl)).cons (hF810.get (t := 15) (v := (.bool (!(few n l)))) rfl)).cons (hF810.get (t := 12) (v := (.bool false)) rfl)).cons (hF810.get (t := 2) (v := (.bool false)) rfl)).cons (hF810.get (t := 1) (v := (.pointer (some ⟨g2, 0, none⟩))) rfl)).cons (hF810.get (t := 0) (v := (.agg #[(.int .i64 n), (.slice A l.length c)])) rfl))
                clear hF810
                refine wp_cond_false (c_false hF811 rfl rfl) ?_
                refine wp_skip ?_
                refine hK547 _ _ ?_
                clear hK547
                refine wp_region_lit ?_
                refine wpl_op (i := 0) rfl (o_val (v := (.int .i64 (m1 + 1 : Nat))) hF811 rfl rfl rfl rfl (rn_addN (a := m1) (b := 1) (hF811.get rfl) rfl (by omega)) ?_)
                intro a812 hF813; clear hF811
                refine wpl_op (i := 1) rfl (o_val (v := (.int .i64 (m1 + 1 : Nat))) hF813 rfl rfl rfl rfl (rn_move (hF813.get rfl)) ?_)
                intro a814 hF815; clear hF813
                refine wpList_nil ?_
                have b816 : Blk w557 g2 24 [(.int .i64 n), (.slice A l.length c)] := (b536.ext hx558)
                refine ⟨⟨(m1 + 1), (((((((((((((((((((((((hF815.nil.cons (q_get hF815 (t := 88) rfl (by first | rfl | (congr 1; omega) | (congr 1; done)))).cons (q_get hF815 (t := 87) rfl rfl)).cons (q_get hF815 (t := 9) rfl rfl)).cons (q_get hF815 (t := 84) rfl rfl)).cons (q_get hF815 (t := 83) rfl rfl)).cons (q_get hF815 (t := 82) rfl rfl)).cons (q_get hF815 (t := 8) rfl rfl)).cons (q_get hF815 (t := 79) rfl rfl)).cons (q_get hF815 (t := 78) rfl rfl)).cons (q_get hF815 (t := 77) rfl rfl)).cons (q_get hF815 (t := 36) rfl rfl)).cons (q_get hF815 (t := 35) rfl rfl)).cons (q_get hF815 (t := 34) rfl rfl)).cons (q_get hF815 (t := 33) rfl rfl)).cons (q_get hF815 (t := 31) rfl rfl)).cons (q_get hF815 (t := 23) rfl rfl)).cons (q_get hF815 (t := 5) rfl rfl)).cons (q_get hF815 (t := 3) rfl rfl)).cons (q_get hF815 (t := 15) rfl rfl)).cons (q_get hF815 (t := 12) rfl rfl)).cons (q_get hF815 (t := 2) rfl rfl)).cons (q_get hF815 (t := 1) rfl rfl)).cons (q_get hF815 (t := 0) rfl rfl)), (by omega), (((Ext.refl w).trans hx534).trans hx558), b816, d575, (by omega)⟩, ?_⟩
                rw [hF815.get (t := 88) rfl, hL539.get (t := 88) rfl]; simp [intOf] <;> omega
            · skip
              refine wp_cond_false (c_false hF544 rfl (decide_eq_false hc546)) ?_
              refine wp_exit ?_
              refine exit_then ?_
              refine exit_then ?_
              refine exit_here ?_
              refine hK518 _ _ ?_
              clear hK518
              refine wp_region_lit ?_
              refine wpl_op (i := 0) rfl (o_val (v := (.int .i64 (k1 + 1 : Nat))) hF544 rfl rfl rfl rfl (rn_addN (a := k1) (b := 1) (hF544.get rfl) rfl (by omega)) ?_)
              intro a817 hF818; clear hF544
              refine wpl_op (i := 1) rfl (o_val (v := (.int .i64 (k1 + 1 : Nat))) hF818 rfl rfl rfl rfl (rn_move (hF818.get rfl)) ?_)
              intro a819 hF820; clear hF818
              refine wpList_nil ?_
              refine ⟨⟨(k1 + 1), (((((((((((((((((((hF820.nil.cons (q_get hF820 (t := 83) rfl (by first | rfl | (congr 1; omega) | (congr 1; done)))).cons (q_get hF820 (t := 82) rfl rfl)).cons (q_get hF820 (t := 8) rfl rfl)).cons (q_get hF820 (t := 79) rfl rfl)).cons (q_get hF820 (t := 78) rfl rfl)).cons (q_get hF820 (t := 77) rfl rfl)).cons (q_get hF820 (t := 36) rfl rfl)).cons (q_get hF820 (t := 35) rfl rfl)).cons (q_get hF820 (t := 34) rfl rfl)).cons (q_get hF820 (t := 33) rfl rfl)).cons (q_get hF820 (t := 31) rfl rfl)).cons (q_get hF820 (t := 23) rfl rfl)).cons (q_get hF820 (t := 5) rfl rfl)).cons (q_get hF820 (t := 3) rfl rfl)).cons (q_get hF820 (t := 15) rfl rfl)).cons (q_get hF820 (t := 12) rfl rfl)).cons (q_get hF820 (t := 2) rfl rfl)).cons (q_get hF820 (t := 1) rfl rfl)).cons (q_get hF820 (t := 0) rfl rfl)), (by omega), ((Ext.refl w).trans hx534), b536, hf537, (by omega)⟩, ?_⟩
              rw [hF820.get (t := 83) rfl, hL510.get (t := 83) rfl]; simp [intOf] <;> omega
          · skip
            refine wp_cond_false (c_false hF515 rfl (decide_eq_false hc517)) ?_
            refine wp_exit ?_
            refine exit_then ?_
            refine exit_then ?_
            refine exit_here ?_
            refine hK494 _ _ ?_
            clear hK494
            refine wp_seq_k (fun K821 hK821 => ?_)
            have hself := hdt.self hng (show i1 < n.toNat by omega)
            refine wp_region_lit ?_
            refine wpl_op (i := 0) rfl (o_val (v := (.slice A40 m41 c42)) hF515 rfl rfl rfl rfl (rn_move (hF515.get rfl)) ?_)
            intro a822 hF823; clear hF515
            refine wpl_op (i := 1) rfl (o_val (v := (.int .i64 (i1 : Nat))) hF823 rfl rfl rfl rfl (rn_move (hF823.get rfl)) ?_)
            intro a824 hF825; clear hF823
            obtain ⟨b826, o827, A828, c829, hA830, hl831, hc832, hr833, z834, z835⟩ := RIss.get (i := i1) hf508 (by omega)
            have z836 := hdt.row i1 (by omega)
            refine wpl_op (i := 2) rfl (o_val (v := (.pointer (some ⟨b826, o827 + i1, none⟩))) hF825 rfl rfl rfl rfl (rn_index1 Try.underlying33 (by kernel_rfl : (Try.prog.info? 25).map (·.size) = some 1) ((hF825.get rfl).trans (by rw [hA830])) (hF825.get rfl) (by omega : (0 : Int) ≤ (i1 : Nat)) (by omega : ((i1 : Nat) : Int) < ((m41 : Nat) : Int))) ?_)
            intro a837 hF838; clear hF825
            refine wpl_op (i := 3) rfl (o_val (v := (.slice A828 ((t43.getD i1 []).length) c829)) hF838 rfl rfl rfl rfl (rn_load (isAgg_no Try.underlying25 rfl) (hF838.get rfl) (Ext.keep (Ext.refl w503) hc832)) ?_)
            intro a839 hF840; clear hF838
            refine wpl_op (i := 4) rfl (o_val (v := (.int .i64 (i1 : Nat))) hF840 rfl rfl rfl rfl (rn_move (hF840.get rfl)) ?_)
            intro a841 hF842; clear hF840
            obtain ⟨b843, o844, hA845, -⟩ := Fl.at hr833 (by omega)
            refine wpl_op (i := 5) rfl (o_val (v := (.pointer (some ⟨b843, o844 + i1, none⟩))) hF842 rfl rfl rfl rfl (rn_index1 Try.underlying25 (by kernel_rfl : (Try.prog.info? 3).map (·.size) = some 1) ((hF842.get rfl).trans (by rw [hA845])) (hF842.get rfl) (by omega : (0 : Int) ≤ (i1 : Nat)) (by omega : ((i1 : Nat) : Int) < (((t43.getD i1 []).length : Nat) : Int))) ?_)
            intro a846 hF847; clear hF842
            refine wpl_op (i := 6) rfl (o_val (v := (.int .i64 ((t43.getD i1 []).getD i1 0))) hF847 rfl rfl rfl rfl (rn_load (isAgg_no Try.underlying3 rfl) (hF847.get rfl) (Fl.cellAt hr833 hA845 (intVals_at (i := i1) (by omega)))) ?_)
            intro a848 hF849; clear hF847
            refine wpl_op (i := 7) rfl (o_val (v := (.bool (decide ((((t43.getD i1 []).getD i1 0) : Int) ≠ (0 : Int))))) hF849 rfl rfl rfl rfl (rn_neq (hF849.get rfl) rfl) ?_)
            intro a850 hF851; clear hF849
            refine wpList_nil ?_
            refine hK821 _ _ ?_
            clear hK821
            have hF852 := (((((((((((((((((((((hF851.nil.cons (hF851.get (t := 143) (v := (.bool (decide ((((t43.getD i1 []).getD i1 0) : Int) ≠ (0 : Int))))) rfl)).cons (hF851.get (t := 84) (v := (.bool (decide (((k1 : Nat) : Int) < ((m41 : Nat) : Int))))) rfl)).cons (hF851.get (t := 83) (v := (.int .i64 (k1 : Nat))) rfl)).cons (hF851.get (t := 82) (v := (.int .i64 (m41 : Nat))) rfl)).cons (hF851.get (t := 8) (v := (.int .i64 (i1 : Nat))) rfl)).cons (hF851.get (t := 79) (v := (.bool (decide (((i1 : Nat) : Int) < ((m41 : Nat) : Int))))) rfl)).cons (hF851.get (t := 78) (v := (.int .i64 (i1 : Nat))) rfl)).cons (hF851.get (t := 77) (v := (.int .i64 (m41 : Nat))) rfl)).cons (hF851.get (t := 36) (v := (.bool (decide (((k : Nat) : Int) < ((l.length : Nat) : Int))))) rfl)).cons (hF851.get (t := 35) (v := (.int .i64 (k : Nat))) rfl)).cons (hF851.get (t := 34) (v := (.int .i64 (l.length : Nat))) rfl)).cons (hF851.get (t := 33) (v := (.slice A l.length c)) rfl)).cons (hF851.get (t := 31) (v := (.bool false)) rfl)).cons (hF851.get (t := 23) (v := (.bool (decide ((er48 : Int) ≠ (0 : Int))))) rfl)).cons (hF851.get (t := 5) (v := (.int .i64 er48)) rfl)).cons (hF851.get (t := 3) (v := (.slice A40 m41 c42)) rfl)).cons (hF851.get (t := 15) (v := (.bool (!(few n l)))) rfl)).cons (hF851.get (t := 12) (v := (.bool false)) rfl)).cons (hF851.get (t := 2) (v := (.bool false)) rfl)).cons (hF851.get (t := 1) (v := (.pointer (some ⟨g2, 0, none⟩))) rfl)).cons (hF851.get (t := 0) (v := (.agg #[(.int .i64 n), (.slice A l.length c)])) rfl))
            clear hF851
            by_cases hc853 : (((t43.getD i1 []).getD i1 0) : Int) ≠ (0 : Int)
            · skip
              refine wp_cond_true (c_true hF852 rfl (decide_eq_true hc853)) ?_
              refine wp_seq_k (fun K854 hK854 => ?_)
              refine wp_region_lit ?_
              refine wpl_op (i := 0) rfl (o_val (v := (.bool false)) hF852 rfl rfl rfl rfl (rn_assign rfl) ?_)
              intro a855 hF856; clear hF852
              refine wpList_nil ?_
              refine hK854 _ _ ?_
              clear hK854
              refine wp_ret ?_
              refine ret_block ?_
              refine ret_then ?_
              refine ret_then ?_
              refine ret_block ?_
              refine ret_then ?_
              refine ret1 hF856 rfl rfl ?_
              exfalso; omega
            · skip
              refine wp_cond_false (c_false hF852 rfl (decide_eq_false hc853)) ?_
              refine wp_skip ?_
              refine hK488 _ _ ?_
              clear hK488
              refine wp_region_lit ?_
              refine wpl_op (i := 0) rfl (o_val (v := (.int .i64 (i1 + 1 : Nat))) hF852 rfl rfl rfl rfl (rn_addN (a := i1) (b := 1) (hF852.get rfl) rfl (by omega)) ?_)
              intro a857 hF858; clear hF852
              refine wpl_op (i := 1) rfl (o_val (v := (.int .i64 (i1 + 1 : Nat))) hF858 rfl rfl rfl rfl (rn_move (hF858.get rfl)) ?_)
              intro a859 hF860; clear hF858
              refine wpList_nil ?_
              refine ⟨⟨(i1 + 1), (((((((((((((((hF860.nil.cons (q_get hF860 (t := 78) rfl (by first | rfl | (congr 1; omega) | (congr 1; done)))).cons (q_get hF860 (t := 77) rfl rfl)).cons (q_get hF860 (t := 36) rfl rfl)).cons (q_get hF860 (t := 35) rfl rfl)).cons (q_get hF860 (t := 34) rfl rfl)).cons (q_get hF860 (t := 33) rfl rfl)).cons (q_get hF860 (t := 31) rfl rfl)).cons (q_get hF860 (t := 23) rfl rfl)).cons (q_get hF860 (t := 5) rfl rfl)).cons (q_get hF860 (t := 3) rfl rfl)).cons (q_get hF860 (t := 15) rfl rfl)).cons (q_get hF860 (t := 12) rfl rfl)).cons (q_get hF860 (t := 2) rfl rfl)).cons (q_get hF860 (t := 1) rfl rfl)).cons (q_get hF860 (t := 0) rfl rfl)), (by omega), ((Ext.refl w).trans hx505), b507, hf508, (by omega)⟩, ?_⟩
              rw [hF860.get (t := 78) rfl, hL480.get (t := 78) rfl]; simp [intOf] <;> omega
        · skip
          refine wp_cond_false (c_false hF485 rfl (decide_eq_false hc487)) ?_
          refine wp_exit ?_
          refine exit_then ?_
          refine exit_then ?_
          refine exit_here ?_
          refine hK464 _ _ ?_
          clear hK464
          refine wp_seq_k (fun K861 hK861 => ?_)
          refine wp_region_lit ?_
          refine wpl_op (i := 0) rfl (o_val (v := (.bool true)) hF485 rfl rfl rfl rfl (rn_assign rfl) ?_)
          intro a862 hF863; clear hF485
          refine wpList_nil ?_
          refine hK861 _ _ ?_
          clear hK861
          refine wp_ret ?_
          refine ret1 hF863 rfl rfl ?_
          exact ⟨rfl, ((Ext.refl w).trans hx475)⟩
  · skip
    refine wp_cond_true (c_true hF33 rfl (not_f hc34)) ?_
    refine wp_seq_k (fun K864 hK864 => ?_)
    refine wp_region_lit ?_
    refine wpl_op (i := 0) rfl (o_val (v := (.bool true)) hF33 rfl rfl rfl rfl (rn_assign rfl) ?_)
    intro a865 hF866; clear hF33
    refine wpList_nil ?_
    refine hK864 _ _ ?_
    clear hK864
    refine wp_ret ?_
    refine ret_then ?_
    refine ret1 hF866 rfl rfl ?_
    exact ⟨rfl, ((((Ext.refl w).trans hx5).trans hx15).trans hx28)⟩

end Go.Proofs.Ytjmdodgmoehfkaa
