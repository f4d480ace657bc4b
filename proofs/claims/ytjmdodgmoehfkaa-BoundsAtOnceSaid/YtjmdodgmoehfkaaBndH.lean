/- Contract of contradiction. -/
import Derived.Test.YtjmdodgmoehfkaaProg
import Derived.Test.YtjmdodgmoehfkaaBndE
import Derived.Test.YtjmdodgmoehfkaaBndG
import Derived.Test.YtjmdodgmoehfkaaSeq3
import Derived.KernelRfl
namespace Go.Proofs.Ytjmdodgmoehfkaa
open Go.RowKit

variable {S S' : Nat → Prop}

set_option maxRecDepth 100000 in
set_option maxHeartbeats 1000000 in
theorem contradiction_any (A : Option Addr) (c nn : Nat) (l : List E3) (w : World) (hf : Fl S w 3 (.slice A l.length c) l.length (edVals l)) (hv : vOk nn l = true) (h0' : 0 < nn) (h8 : nn ≤ 8) (hm : l.length ≤ 31) :
    Calls Try.prog 30 #[.agg #[.int .i64 (nn : Nat), .slice A l.length c]] w (fun e w' => ∃ A' m c' cyc, e = .returned (.slice A' m c') ∧ Fl (fun b => w.heap.size ≤ b) w' 1 (.slice A' m c') m (intVals cyc) ∧ ((cyc = [] ∧ ¬ P15.Neg (eds l)) ∨ (CycP l cyc ∧ P15.Neg (eds l))) ∧ Ext w w') := by
  have hc : Fl (Clip S w) w 3 (.slice A l.length c) l.length (edVals l) := hf.clip
  have hcc := (Fl.cel hc).2.1
  refine calls_enter (l := [(.agg #[(.int .i64 (nn : Nat)), (.slice A l.length c)])]) Try.func30 rfl rfl rfl (fun aA hF => ?_)
  refine wp_seq_k (fun K1 hK1 => ?_)
  refine wp_region_lit ?_
  refine wpl_op (i := 0) rfl (o_new (fun g => (.pointer (some ⟨g, 0, none⟩))) [(.int .i64 (nn : Nat)), (.slice A l.length c)] 24 hF rfl rfl rfl rfl (rn_box (hF.get rfl) (by kernel_rfl)) ?_)
  intro g2 w3 a8 hF9 z6 z7 b4 hx5; clear hF
  refine wpl_op (i := 1) rfl (o_val (v := (.slice none 0 0)) hF9 rfl rfl rfl rfl (rn_assign rfl) ?_)
  intro a10 hF11; clear hF9
  refine wpList_nil ?_
  refine hK1 _ _ ?_
  clear hK1
  refine wp_scope_straight ?_
  refine wp_seq_k (fun K12 hK12 => ?_)
  have hx14 : ∃ W, w3.drew = W ∧ Ext w3 W := ⟨_, rfl, (Ext.refl _).drew⟩
  obtain ⟨w13, e15, hx14⟩ := hx14
  have z16 := hx14.size
  refine any_start (fun W => Ext w13 W ∧ Blk W g2 24 [(.int .i64 (nn : Nat)), (.slice A l.length c)]) (fun i => false) 10 #[false, false, false, false, false, false, false, false, false, false] rfl rfl rfl ?_
  rw [e15]; clear e15
  refine any_have (n1 := 2) (L1 := #[true, true, true, true, true, true, true, true, false, false]) (fun a' W => ∃ (g29 : Nat) (g47 : Nat), Sl 61 [(0, (.agg #[(.int .i64 (nn : Nat)), (.slice A l.length c)])), (1, (.pointer (some ⟨g2, 0, none⟩))), (2, (.slice none 0 0)), (14, (.agg #[(.int .i64 (nn : Nat)), (.slice A l.length c), (.slice (some ⟨g29, 0, none⟩) nn nn), (.slice (some ⟨g47, 0, none⟩) nn nn)]))] a' ∧ Ext w13 W ∧ Blk W g29 3 (intVals (List.replicate nn 0)) ∧ w13.heap.size ≤ g29 ∧ Blk W g47 3 (intVals (List.replicate nn 0)) ∧ w13.heap.size ≤ g47 ∧ g29 ≠ g47) ?_ (fun st69 => ?_)
  · skip
    rintro a70 w71 ⟨g29, g47, hF72, hx73, b74, z75, b76, z77, z78⟩
    clear hF11
    have z79 := hx73.size
    have z80 := b74.lt
    have z81 := b76.lt
    refine any_one (i := 8) (by decide +kernel) rfl ?_
    refine o_new (fun g => (.pointer (some ⟨g, 0, none⟩))) [(.int .i64 (nn : Nat)), (.slice A l.length c), (.slice (some ⟨g29, 0, none⟩) nn nn), (.slice (some ⟨g47, 0, none⟩) nn nn)] 61 hF72 rfl rfl rfl rfl (rn_box (hF72.get rfl) (by kernel_rfl)) ?_
    intro g82 w83 a88 hF89 z86 z87 b84 hx85; clear hF72
    have b90 : Blk w83 g2 24 [(.int .i64 (nn : Nat)), (.slice A l.length c)] := (((b4.ext hx14).ext hx73).ext hx85)
    refine ⟨fun _ _ => ⟨(((Ext.refl w13).trans hx73).trans hx85), b90⟩, ?_⟩
    refine any_pure (i := 9) (v := (.pointer (some ⟨g82, 0, none⟩))) hF89 (by decide +kernel) (by decide +kernel) rfl rfl rfl rfl (fun _ _ _ _ h => h) rfl (fun W => (rn_assign (hF89.get rfl))) ?_
    intro a91 hF92; clear hF89
    refine any_nil (by decide +kernel) ?_
    refine hK12 _ _ ?_
    clear hK12
    refine wp_seq_k (fun K93 hK93 => ?_)
    refine wp_region_lit ?_
    refine wpl_op (i := 0) rfl (o_val (v := (.pointer (some ⟨g82, 0, none⟩))) hF92 rfl rfl rfl rfl (rn_move (hF92.get rfl)) ?_)
    intro a94 hF95; clear hF92
    have hf96 := b84
    have b97 : Blk w83 g29 3 (intVals (List.replicate nn 0)) := (b74.ext hx85)
    have hf98 := b97
    have b99 : Blk w83 g47 3 (intVals (List.replicate nn 0)) := (b76.ext hx85)
    have hf100 := b99
    have d101 := ((((hc.ext hx5).ext hx14).ext hx73).ext hx85)
    have hf102 := d101
    refine wpl_op (i := 1) rfl (o_call hF95 rfl rfl rfl rfl (rn_call (args1 (hF95.get rfl)) rfl (by kernel_rfl)) (run_any (G := P15.Low) g82 g29 0 nn g47 nn nn A c l (List.replicate nn 0) (List.replicate nn 0) _ 0 hf96 hf98 hf100 (by simp) (by simp) hf102 (fun h => by simp only [Clip] at h; omega) (fun h => by simp only [Clip] at h; omega) (by omega) (by omega) (by omega) hv (by omega) h8 hm (keeps_low _) (rep_pos nn) (fun v => .inr (fn_zero nn v)) (fun v => by rw [fn_zero]; exact Int.le_refl _)) ?_)
    rintro _ w108 ⟨last103, L104, D105, rfl, hran106, b109, b110, ht111⟩
    have z117 := ht111.size
    obtain ⟨w112, hg113, hg114⟩ := ht111.split b99.lt
    refine ⟨_, rfl, ?_⟩; intro a115 hF116; clear hF95; have z118 := hg113.size; have z119 := hg114.size
    have hD_D105 := hran106.dlen
    have hv0 := hv
    refine wpl_op (i := 2) rfl (o_val (v := (.int .i64 last103)) hF116 rfl rfl rfl rfl (rn_assign (hF116.get rfl)) ?_)
    intro a120 hF121; clear hF116
    refine wpList_nil ?_
    refine hK93 _ _ ?_
    clear hK93
    have hF122 := (((((hF121.nil.cons (hF121.get (t := 4) (v := (.int .i64 last103)) rfl)).cons (hF121.get (t := 3) (v := (.pointer (some ⟨g82, 0, none⟩))) rfl)).cons (hF121.get (t := 2) (v := (.slice none 0 0)) rfl)).cons (hF121.get (t := 1) (v := (.pointer (some ⟨g2, 0, none⟩))) rfl)).cons (hF121.get (t := 0) (v := (.agg #[(.int .i64 (nn : Nat)), (.slice A l.length c)])) rfl))
    clear hF121
    refine wp_seq_k (fun K123 hK123 => ?_)
    refine wp_seq_k (fun K124 hK124 => ?_)
    refine wp_region_lit ?_
    refine wpl_op (i := 0) rfl (o_val (v := (.int .i64 last103)) hF122 rfl rfl rfl rfl (rn_move (hF122.get rfl)) ?_)
    intro a125 hF126; clear hF122
    refine wpl_op (i := 1) rfl (o_val (v := (.bool (decide ((last103 : Int) < (0 : Int))))) hF126 rfl rfl rfl rfl (rn_lss (hF126.get rfl) rfl) ?_)
    intro a127 hF128; clear hF126
    refine wpList_nil ?_
    refine hK124 _ _ ?_
    clear hK124
    by_cases hc129 : (last103 : Int) < (0 : Int)
    · skip
      refine wp_cond_true (c_true hF128 rfl (decide_eq_true hc129)) ?_
      refine wp_seq_k (fun K130 hK130 => ?_)
      refine wp_region_lit ?_
      refine wpl_op (i := 0) rfl (o_val (v := (.slice none 0 0)) hF128 rfl rfl rfl rfl (rn_assign rfl) ?_)
      intro a131 hF132; clear hF128
      refine wpList_nil ?_
      refine hK130 _ _ ?_
      clear hK130
      refine wp_ret ?_
      refine ret_then ?_
      refine scope_ret ?_
      refine ret1 hF132 rfl rfl ?_
      exact ⟨none, 0, 0, [], rfl, Fl.nil _, .inl ⟨rfl, hran106.noneg (by omega)⟩, (((((((Ext.refl w).trans hx5).trans hx14).trans hx73).trans hx85).grownN hg113 (by omega)).grownN hg114 (by omega))⟩
    · skip
      refine wp_cond_false (c_false hF128 rfl (decide_eq_false hc129)) ?_
      refine wp_skip ?_
      refine hK123 _ _ ?_
      clear hK123
      refine wp_seq_k (fun K133 hK133 => ?_)
      refine wp_seq_k (fun K134 hK134 => ?_)
      refine wp_region_lit ?_
      refine wpl_op (i := 0) rfl (o_val (v := (.pointer (some ⟨g2, 0, none⟩))) hF128 rfl rfl rfl rfl (rn_field Try.underlying24 rfl (by kernel_rfl) (hF128.get rfl) rfl) ?_)
      intro a135 hF136; clear hF128
      have b137 : Blk w108 g2 24 [(.int .i64 (nn : Nat)), (.slice A l.length c)] := ((b90.grownN hg113 (by omega)).grownN hg114 (by omega))
      refine wpl_op (i := 1) rfl (o_val (v := (.int .i64 (nn : Nat))) hF136 rfl rfl rfl rfl (rn_load (isAgg_no Try.underlying3 rfl) (hF136.get rfl) (b137.rule.1 0)) ?_)
      intro a138 hF139; clear hF136
      refine wpl_op (i := 2) rfl (o_val (v := (.int .i64 0)) hF139 rfl rfl rfl rfl (rn_move rfl) ?_)
      intro a140 hF141; clear hF139
      refine wpList_nil ?_
      refine hK134 _ _ ?_
      clear hK134
      refine wp_block ?_
      obtain ⟨v1, d1, e1, c1, c2, c3, c4, c5, c6, c7, c8, c9⟩ := hran106.cyc hv (by omega)
      have hb0 : P15.backN (eds l) (en D105) 0 v1 = v1 := rfl
      have b142 : Blk w108 g82 61 [(.int .i64 (nn : Nat)), (.slice A l.length c), (.slice (some ⟨g29, 0, none⟩) nn nn), (.slice (some ⟨g47, 0, none⟩) nn nn)] := ((b84.grownN hg113 (by omega)).grownN hg114 (by omega))
      refine wp_loop (fun a' W => ∃ (k : Nat), Sl 61 [(0, (.agg #[(.int .i64 (nn : Nat)), (.slice A l.length c)])), (1, (.pointer (some ⟨g2, 0, none⟩))), (2, (.slice none 0 0)), (3, (.pointer (some ⟨g82, 0, none⟩))), (4, (.int .i64 (P15.backN (eds l) (en D105) k v1 : Nat))), (19, (.bool (decide ((last103 : Int) < (0 : Int))))), (21, (.int .i64 (nn : Nat))), (22, (.int .i64 (k : Nat)))] a' ∧ k ≤ nn ∧ Ext w W ∧ Blk W g2 24 [(.int .i64 (nn : Nat)), (.slice A l.length c)] ∧ Blk W g29 3 (intVals L104) ∧ Blk W g47 3 (intVals D105) ∧ Blk W g82 61 [(.int .i64 (nn : Nat)), (.slice A l.length c), (.slice (some ⟨g29, 0, none⟩) nn nn), (.slice (some ⟨g47, 0, none⟩) nn nn)] ∧ w108.heap.size ≤ W.heap.size) (fun a' _ => nn - (intOf (a'.eval (.tmp 22))).toNat) ⟨0, ((((((((hF141.nil.cons (q_get hF141 (t := 22) rfl (by first | rfl | (congr 1; omega) | (congr 1; done)))).cons (q_get hF141 (t := 21) rfl rfl)).cons (q_get hF141 (t := 19) rfl rfl)).cons (q_get hF141 (t := 4) rfl (by first | rfl | (congr 1; omega) | (congr 1; done)))).cons (q_get hF141 (t := 3) rfl rfl)).cons (q_get hF141 (t := 2) rfl rfl)).cons (q_get hF141 (t := 1) rfl rfl)).cons (q_get hF141 (t := 0) rfl rfl)), (by omega), (((((((Ext.refl w).trans hx5).trans hx14).trans hx73).trans hx85).grownN hg113 (by omega)).grownN hg114 (by omega)), b137, b109, b110, b142, (Nat.le_refl _)⟩ ?_
      clear hF141
      rintro a143 w144 ⟨k, hF145, hp147, hx146, b148, b149, b150, b151, hf152⟩
      have hL153 := hF145
      have z154 := hx146.size
      have z155 := b148.lt
      have z156 := b149.lt
      have z157 := b150.lt
      have z158 := b151.lt
      refine wp_seq_k (fun K159 hK159 => ?_)
      refine wp_region_lit ?_
      refine wpl_op (i := 0) rfl (o_val (v := (.bool (decide (((k : Nat) : Int) < ((nn : Nat) : Int))))) hF145 rfl rfl rfl rfl (rn_lss (hF145.get rfl) (hF145.get rfl)) ?_)
      intro a160 hF161; clear hF145
      refine wpList_nil ?_
      refine hK159 _ _ ?_
      clear hK159
      refine wp_seq_k (fun K162 hK162 => ?_)
      by_cases hc163 : ((k : Nat) : Int) < ((nn : Nat) : Int)
      · skip
        refine wp_cond_true (c_true hF161 rfl (decide_eq_true hc163)) ?_
        refine wp_skip ?_
        refine hK162 _ _ ?_
        clear hK162
        refine wp_seq_k (fun K164 hK164 => ?_)
        refine wp_block ?_
        have hk0 := c1 k (by omega)
        have hk1 := c2 k (by omega)
        have hk2 := hran106.dpos (P15.backN (eds l) (en D105) k v1)
        have hk3 := back_read hv hk2 hk1
        have hk4 : P15.backN (eds l) (en D105) (k + 1) v1 = P15.back (eds l) (en D105) (P15.backN (eds l) (en D105) k v1) := rfl
        have hx166 : ∃ W, w144.drew = W ∧ Ext w144 W := ⟨_, rfl, (Ext.refl _).drew⟩
        obtain ⟨w165, e167, hx166⟩ := hx166
        have z168 := hx166.size
        refine any_start (fun W => Ext w165 W ∧ Blk W g2 24 [(.int .i64 (nn : Nat)), (.slice A l.length c)] ∧ Blk W g82 61 [(.int .i64 (nn : Nat)), (.slice A l.length c), (.slice (some ⟨g29, 0, none⟩) nn nn), (.slice (some ⟨g47, 0, none⟩) nn nn)]) (fun i => false) 13 #[false, false, false, false, false, false, false, false, false, false, false, false, false] rfl rfl rfl ?_
        rw [e167]; clear e167
        refine any_pure (i := 0) (v := (.pointer (some ⟨g2, 1, none⟩))) hF161 (by decide +kernel) (by decide +kernel) rfl rfl rfl rfl (fun _ _ _ _ h => h) rfl (fun W => (rn_field Try.underlying24 rfl (by kernel_rfl) (hF161.get rfl) rfl)) ?_
        intro a169 hF170; clear hF161
        have b172 : Blk w165 g2 24 [(.int .i64 (nn : Nat)), (.slice A l.length c)] := (b148.ext hx166)
        have b173 : Blk w165 g82 61 [(.int .i64 (nn : Nat)), (.slice A l.length c), (.slice (some ⟨g29, 0, none⟩) nn nn), (.slice (some ⟨g47, 0, none⟩) nn nn)] := (b151.ext hx166)
        have hS171 : Ext w165 w165 ∧ Blk w165 g2 24 [(.int .i64 (nn : Nat)), (.slice A l.length c)] ∧ Blk w165 g82 61 [(.int .i64 (nn : Nat)), (.slice A l.length c), (.slice (some ⟨g29, 0, none⟩) nn nn), (.slice (some ⟨g47, 0, none⟩) nn nn)] := ⟨(Ext.refl w165), b172, b173⟩
        refine any_val (i := 1) (v := (.slice A l.length c)) hF170 (by decide +kernel) (by decide +kernel) rfl rfl rfl rfl (fun _ _ _ _ h => h) rfl hS171 (fun W hW => (rn_load (isAgg_no Try.underlying22 rfl) (hF170.get rfl) (hW.2.1.rule.1 1))) ?_
        intro a174 hF175; clear hF170
        refine any_pure (i := 2) (v := (.pointer (some ⟨g82, 0, none⟩))) hF175 (by decide +kernel) (by decide +kernel) rfl rfl rfl rfl (fun _ _ _ _ h => h) rfl (fun W => (rn_move (hF175.get rfl))) ?_
        intro a176 hF177; clear hF175
        refine any_pure (i := 3) (v := (.pointer (some ⟨g82, 0, none⟩))) hF177 (by decide +kernel) (by decide +kernel) rfl rfl rfl rfl (fun _ _ _ _ h => h) rfl (fun W => (rn_nil (hF177.get rfl))) ?_
        intro a178 hF179; clear hF177
        refine any_pure (i := 4) (v := (.pointer (some ⟨g82, 3, none⟩))) hF179 (by decide +kernel) (by decide +kernel) rfl rfl rfl rfl (fun _ _ _ _ h => h) rfl (fun W => (rn_field Try.underlying61 rfl (by kernel_rfl) (hF179.get rfl) rfl)) ?_
        intro a180 hF181; clear hF179
        refine any_val (i := 5) (v := (.slice (some ⟨g47, 0, none⟩) nn nn)) hF181 (by decide +kernel) (by decide +kernel) rfl rfl rfl rfl (fun _ _ _ _ h => h) rfl hS171 (fun W hW => (rn_load (isAgg_no Try.underlying25 rfl) (hF181.get rfl) (hW.2.2.rule.1 3))) ?_
        intro a182 hF183; clear hF181
        refine any_pure (i := 6) (v := (.int .i64 (P15.backN (eds l) (en D105) k v1 : Nat))) hF183 (by decide +kernel) (by decide +kernel) rfl rfl rfl rfl (fun _ _ _ _ h => h) rfl (fun W => (rn_move (hF183.get rfl))) ?_
        intro a184 hF185; clear hF183
        refine any_pure (i := 7) (v := (.pointer (some ⟨g47, 0 + (P15.backN (eds l) (en D105) k v1), none⟩))) hF185 (by decide +kernel) (by decide +kernel) rfl rfl rfl rfl (fun _ _ _ _ h => h) rfl (fun W => (rn_index1 Try.underlying25 (by kernel_rfl : (Try.prog.info? 3).map (·.size) = some 1) (hF185.get rfl) (hF185.get rfl) (by omega : (0 : Int) ≤ (P15.backN (eds l) (en D105) k v1 : Nat)) (by omega : ((P15.backN (eds l) (en D105) k v1 : Nat) : Int) < ((nn : Nat) : Int)))) ?_
        intro a186 hF187; clear hF185
        have b188 : Blk w165 g47 3 (intVals D105) := (b150.ext hx166)
        refine any_val (i := 8) (v := (.int .i64 (D105.getD (P15.backN (eds l) (en D105) k v1) 0))) hF187 (by decide +kernel) (by decide +kernel) rfl rfl rfl rfl (fun _ _ _ _ h => h) rfl hS171 (fun W hW => (rn_load (isAgg_no Try.underlying3 rfl) (hF187.get rfl) (blk_intVals (b188.ext hW.1) (by omega) (by have := (show List.length D105 = _ from hD_D105); omega)))) ?_
        intro a189 hF190; clear hF187
        have d194 := ((hc.ext hx146).ext hx166)
        obtain ⟨b191, o192, hA193, -⟩ := Fl.at d194 (by omega)
        refine any_pure (i := 9) (v := (.pointer (some ⟨b191, o192 + ((D105.getD (P15.backN (eds l) (en D105) k v1) 0) : Int).toNat * 3, none⟩))) hF190 (by decide +kernel) (by decide +kernel) rfl rfl rfl rfl (fun _ _ _ _ h => h) rfl (fun W => (rn_indexE Try.underlying22 (by kernel_rfl : (Try.prog.info? 41).map (·.size) = some 3) ((hF190.get rfl).trans (by rw [hA193])) (hF190.get rfl) (by omega : (0 : Int) ≤ (D105.getD (P15.backN (eds l) (en D105) k v1) 0)) (by omega : ((D105.getD (P15.backN (eds l) (en D105) k v1) 0) : Int) < ((l.length : Nat) : Int)) (by omega))) ?_
        intro a195 hF196; clear hF190
        refine any_pure (i := 10) (v := (.pointer (some ⟨b191, o192 + ((D105.getD (P15.backN (eds l) (en D105) k v1) 0) : Int).toNat * 3, none⟩))) hF196 (by decide +kernel) (by decide +kernel) rfl rfl rfl rfl (fun _ _ _ _ h => h) rfl (fun W => (rn_field Try.underlying41 rfl (by kernel_rfl) (hF196.get rfl) rfl)) ?_
        intro a197 hF198; clear hF196
        refine any_val (i := 11) (v := (.int .i64 ((l.getD (((D105.getD (P15.backN (eds l) (en D105) k v1) 0) : Int).toNat) default).a))) hF198 (by decide +kernel) (by decide +kernel) rfl rfl rfl rfl (fun _ _ _ _ h => h) rfl hS171 (fun W hW => (rn_load (isAgg_no Try.underlying3 rfl) (hF198.get rfl) (Fl.recAt edCells_k (d194.ext hW.1) hA193 (by omega) 0 _ rfl))) ?_
        intro a199 hF200; clear hF198
        refine any_pure (i := 12) (v := (.int .i64 ((l.getD (((D105.getD (P15.backN (eds l) (en D105) k v1) 0) : Int).toNat) default).a))) hF200 (by decide +kernel) (by decide +kernel) rfl rfl rfl rfl (fun _ _ _ _ h => h) rfl (fun W => (rn_assign (hF200.get rfl))) ?_
        intro a201 hF202; clear hF200
        refine any_nil (by decide +kernel) ?_
        refine hK164 _ _ ?_
        clear hK164
        have hF203 := (((((((((hF202.nil.cons (hF202.get (t := 23) (v := (.bool (decide (((k : Nat) : Int) < ((nn : Nat) : Int))))) rfl)).cons (hF202.get (t := 22) (v := (.int .i64 (k : Nat))) rfl)).cons (hF202.get (t := 21) (v := (.int .i64 (nn : Nat))) rfl)).cons (hF202.get (t := 19) (v := (.bool (decide ((last103 : Int) < (0 : Int))))) rfl)).cons (hF202.get (t := 4) (v := (.int .i64 ((l.getD (((D105.getD (P15.backN (eds l) (en D105) k v1) 0) : Int).toNat) default).a))) rfl)).cons (hF202.get (t := 3) (v := (.pointer (some ⟨g82, 0, none⟩))) rfl)).cons (hF202.get (t := 2) (v := (.slice none 0 0)) rfl)).cons (hF202.get (t := 1) (v := (.pointer (some ⟨g2, 0, none⟩))) rfl)).cons (hF202.get (t := 0) (v := (.agg #[(.int .i64 (nn : Nat)), (.slice A l.length c)])) rfl))
        clear hF202
        refine wp_region_lit ?_
        refine wpl_op (i := 0) rfl (o_val (v := (.int .i64 (k + 1 : Nat))) hF203 rfl rfl rfl rfl (rn_addN (a := k) (b := 1) (hF203.get rfl) rfl (by omega)) ?_)
        intro a204 hF205; clear hF203
        refine wpl_op (i := 1) rfl (o_val (v := (.int .i64 (k + 1 : Nat))) hF205 rfl rfl rfl rfl (rn_move (hF205.get rfl)) ?_)
        intro a206 hF207; clear hF205
        refine wpList_nil ?_
        have b208 : Blk w165 g29 3 (intVals L104) := (b149.ext hx166)
        refine ⟨⟨(k + 1), ((((((((hF207.nil.cons (q_get hF207 (t := 22) rfl (by first | rfl | (congr 1; omega) | (congr 1; done)))).cons (q_get hF207 (t := 21) rfl rfl)).cons (q_get hF207 (t := 19) rfl rfl)).cons (q_get hF207 (t := 4) rfl (by first | rfl | (congr 1; omega) | (congr 1; done)))).cons (q_get hF207 (t := 3) rfl rfl)).cons (q_get hF207 (t := 2) rfl rfl)).cons (q_get hF207 (t := 1) rfl rfl)).cons (q_get hF207 (t := 0) rfl rfl)), (by omega), (((Ext.refl w).trans hx146).trans hx166), b172, b208, b188, b173, (by omega)⟩, ?_⟩
        rw [hF207.get (t := 22) rfl, hL153.get (t := 22) rfl]; simp [intOf] <;> omega
      · skip
        refine wp_cond_false (c_false hF161 rfl (decide_eq_false hc163)) ?_
        refine wp_exit ?_
        refine exit_then ?_
        refine exit_then ?_
        refine exit_here ?_
        refine hK133 _ _ ?_
        clear hK133
        refine wp_seq_k (fun K209 hK209 => ?_)
        refine wp_region_lit ?_
        refine wpl_op (i := 0) rfl (o_val (v := (.int .i64 (P15.backN (eds l) (en D105) k v1 : Nat))) hF161 rfl rfl rfl rfl (rn_move (hF161.get rfl)) ?_)
        intro a210 hF211; clear hF161
        refine wpl_op (i := 1) rfl (o_val (v := (.int .i64 (P15.backN (eds l) (en D105) k v1 : Nat))) hF211 rfl rfl rfl rfl (rn_assign (hF211.get rfl)) ?_)
        intro a212 hF213; clear hF211
        refine wpList_nil ?_
        refine hK209 _ _ ?_
        clear hK209
        refine wp_seq_k (fun K214 hK214 => ?_)
        refine wp_label ?_
        refine hK214 _ _ ?_
        clear hK214
        refine wp_seq_k (fun K215 hK215 => ?_)
        refine wp_block ?_
        have hke : k = nn := by omega
        rw [← hke] at c5 c6 c7 c8
        obtain ⟨u1, hu1⟩ : ∃ u, u = P15.backN (eds l) (en D105) k v1 := ⟨_, rfl⟩
        rw [← hu1] at c5 c6 c7 c8
        have hb1 : P15.backN (eds l) (en D105) 0 u1 = u1 := rfl
        refine wp_loop (fun a' W => ∃ (j : Nat) (Ap : Option Addr) (np : Nat) (cp : Nat) (cy : List Int), Sl 61 [(0, (.agg #[(.int .i64 (nn : Nat)), (.slice A l.length c)])), (1, (.pointer (some ⟨g2, 0, none⟩))), (2, (.slice Ap np cp)), (3, (.pointer (some ⟨g82, 0, none⟩))), (4, (.int .i64 (P15.backN (eds l) (en D105) j u1 : Nat))), (19, (.bool (decide ((last103 : Int) < (0 : Int))))), (21, (.int .i64 (nn : Nat))), (22, (.int .i64 (k : Nat))), (23, (.bool (decide (((k : Nat) : Int) < ((nn : Nat) : Int))))), (5, (.int .i64 (P15.backN (eds l) (en D105) k v1 : Nat)))] a' ∧ (j < d1 ∧ np = j) ∧ (cy = (List.range j).map fun k => D105.getD (P15.backN (eds l) (en D105) k u1) 0) ∧ Ext w W ∧ Blk W g2 24 [(.int .i64 (nn : Nat)), (.slice A l.length c)] ∧ Blk W g29 3 (intVals L104) ∧ Blk W g47 3 (intVals D105) ∧ Blk W g82 61 [(.int .i64 (nn : Nat)), (.slice A l.length c), (.slice (some ⟨g29, 0, none⟩) nn nn), (.slice (some ⟨g47, 0, none⟩) nn nn)] ∧ W.ownsRow w144.heap.size 3 1 (.slice Ap np cp) np (intVals cy) ∧ w144.heap.size ≤ W.heap.size ∧ w144.heap.size ≤ W.heap.size) (fun a' _ => d1 - (slLen (a'.eval (.tmp 2)))) ⟨0, none, 0, 0, [], ((((((((((hF213.nil.cons (q_get hF213 (t := 5) rfl rfl)).cons (q_get hF213 (t := 23) rfl rfl)).cons (q_get hF213 (t := 22) rfl rfl)).cons (q_get hF213 (t := 21) rfl rfl)).cons (q_get hF213 (t := 19) rfl rfl)).cons (q_get hF213 (t := 4) rfl (by first | rfl | (congr 1; omega) | (congr 1; done)))).cons (q_get hF213 (t := 3) rfl rfl)).cons (q_get hF213 (t := 2) rfl (by first | rfl | (congr 1; omega) | (congr 1; done)))).cons (q_get hF213 (t := 1) rfl rfl)).cons (q_get hF213 (t := 0) rfl rfl)), ⟨by omega, by omega⟩, rfl, ((Ext.refl w).trans hx146), b148, b149, b150, b151, (own_nil w144 w144.heap.size 3 1), (by omega), (Nat.le_refl _)⟩ ?_
        clear hF213
        rintro a216 w217 ⟨j, Ap, np, cp, cy, hF218, hp220, hp221, hx219, b222, b223, b224, b225, r226, hf227, hf228⟩
        have hL229 := hF218
        have z230 := hx219.size
        have z231 := b222.lt
        have z232 := b223.lt
        have z233 := b224.lt
        have z234 := b225.lt
        have z235 := own_form0 r226
        refine wp_block ?_
        refine wp_seq_k (fun K236 hK236 => ?_)
        have hj0 := (c7 j).1
        have hj1 := (c7 j).2
        have hj2 := hran106.dpos (P15.backN (eds l) (en D105) j u1)
        have hj3 := back_read hv hj2 hj1
        have hj4 : P15.backN (eds l) (en D105) (j + 1) u1 = P15.back (eds l) (en D105) (P15.backN (eds l) (en D105) j u1) := rfl
        have hj5 := c6 (j + 1) (by omega)
        have hj6 : j + 1 = d1 → P15.backN (eds l) (en D105) (j + 1) u1 = u1 := fun e => e ▸ c5
        have hj7 : j + 1 < d1 ∨ j + 1 = d1 := by omega
        have hj8 : (j + 1 < d1 ∧ P15.backN (eds l) (en D105) (j + 1) u1 ≠ u1) ∨ (j + 1 = d1 ∧ P15.backN (eds l) (en D105) (j + 1) u1 = u1) := hj7.elim (fun h => .inl ⟨h, hj5 h⟩) (fun h => .inr ⟨h, hj6 h⟩)
        refine wp_region_lit ?_
        refine wpl_op (i := 0) rfl (o_val (v := (.pointer (some ⟨g82, 0, none⟩))) hF218 rfl rfl rfl rfl (rn_move (hF218.get rfl)) ?_)
        intro a237 hF238; clear hF218
        refine wpl_op (i := 1) rfl (o_val (v := (.pointer (some ⟨g82, 0, none⟩))) hF238 rfl rfl rfl rfl (rn_nil (hF238.get rfl)) ?_)
        intro a239 hF240; clear hF238
        refine wpl_op (i := 2) rfl (o_val (v := (.pointer (some ⟨g82, 3, none⟩))) hF240 rfl rfl rfl rfl (rn_field Try.underlying61 rfl (by kernel_rfl) (hF240.get rfl) rfl) ?_)
        intro a241 hF242; clear hF240
        refine wpl_op (i := 3) rfl (o_val (v := (.slice (some ⟨g47, 0, none⟩) nn nn)) hF242 rfl rfl rfl rfl (rn_load (isAgg_no Try.underlying25 rfl) (hF242.get rfl) (b225.rule.1 3)) ?_)
        intro a243 hF244; clear hF242
        refine wpl_op (i := 4) rfl (o_val (v := (.int .i64 (P15.backN (eds l) (en D105) j u1 : Nat))) hF244 rfl rfl rfl rfl (rn_move (hF244.get rfl)) ?_)
        intro a245 hF246; clear hF244
        refine wpl_op (i := 5) rfl (o_val (v := (.pointer (some ⟨g47, 0 + (P15.backN (eds l) (en D105) j u1), none⟩))) hF246 rfl rfl rfl rfl (rn_index1 Try.underlying25 (by kernel_rfl : (Try.prog.info? 3).map (·.size) = some 1) (hF246.get rfl) (hF246.get rfl) (by omega : (0 : Int) ≤ (P15.backN (eds l) (en D105) j u1 : Nat)) (by omega : ((P15.backN (eds l) (en D105) j u1 : Nat) : Int) < ((nn : Nat) : Int))) ?_)
        intro a247 hF248; clear hF246
        refine wpl_op (i := 6) rfl (o_val (v := (.int .i64 (D105.getD (P15.backN (eds l) (en D105) j u1) 0))) hF248 rfl rfl rfl rfl (rn_load (isAgg_no Try.underlying3 rfl) (hF248.get rfl) (blk_intVals b224 (by omega) (by have := (show List.length D105 = _ from hD_D105); omega))) ?_)
        intro a249 hF250; clear hF248
        refine wpl_op (i := 7) rfl (o_val (v := (.int .i64 (D105.getD (P15.backN (eds l) (en D105) j u1) 0))) hF250 rfl rfl rfl rfl (rn_assign (hF250.get rfl)) ?_)
        intro a251 hF252; clear hF250
        refine wpList_nil ?_
        refine hK236 _ _ ?_
        clear hK236
        have hF253 := (((((((((((hF252.nil.cons (hF252.get (t := 6) (v := (.int .i64 (D105.getD (P15.backN (eds l) (en D105) j u1) 0))) rfl)).cons (hF252.get (t := 5) (v := (.int .i64 (P15.backN (eds l) (en D105) k v1 : Nat))) rfl)).cons (hF252.get (t := 23) (v := (.bool (decide (((k : Nat) : Int) < ((nn : Nat) : Int))))) rfl)).cons (hF252.get (t := 22) (v := (.int .i64 (k : Nat))) rfl)).cons (hF252.get (t := 21) (v := (.int .i64 (nn : Nat))) rfl)).cons (hF252.get (t := 19) (v := (.bool (decide ((last103 : Int) < (0 : Int))))) rfl)).cons (hF252.get (t := 4) (v := (.int .i64 (P15.backN (eds l) (en D105) j u1 : Nat))) rfl)).cons (hF252.get (t := 3) (v := (.pointer (some ⟨g82, 0, none⟩))) rfl)).cons (hF252.get (t := 2) (v := (.slice Ap np cp)) rfl)).cons (hF252.get (t := 1) (v := (.pointer (some ⟨g2, 0, none⟩))) rfl)).cons (hF252.get (t := 0) (v := (.agg #[(.int .i64 (nn : Nat)), (.slice A l.length c)])) rfl))
        clear hF252
        refine wp_seq_k (fun K254 hK254 => ?_)
        refine wp_region_lit ?_
        refine wpl_op (i := 0) rfl (o_val (v := (.slice Ap np cp)) hF253 rfl rfl rfl rfl (rn_move (hF253.get rfl)) ?_)
        intro a255 hF256; clear hF253
        refine wpl_op (i := 1) rfl (o_val (v := (.int .i64 (D105.getD (P15.backN (eds l) (en D105) j u1) 0))) hF256 rfl rfl rfl rfl (rn_move (hF256.get rfl)) ?_)
        intro a257 hF258; clear hF256
        have hf259 := r226
        refine wpl_op (i := 2) rfl (o_new (fun g => (.slice (some ⟨g, 0, none⟩) 1 1)) [(.int .i64 (D105.getD (P15.backN (eds l) (en D105) j u1) 0))] 3 hF258 rfl rfl rfl rfl (rn_buildSlice (parts1 (hF258.get rfl)) (by kernel_rfl)) ?_)
        intro g260 w261 a266 hF267 z264 z265 b262 hx263; clear hF258
        have nb268 := own_new (g := g260) hf259 (by omega)
        have r269 := (own_ext r226 hx263)
        have hf278 := r269
        have b279 : Blk w261 g29 3 (intVals L104) := (b223.ext hx263)
        have nb280 : some g29 ≠ (Value.slice Ap np cp).ownBlock := (own_ne r269 (by omega : g29 < w144.heap.size))
        have z281 := b279.lt
        have b282 : Blk w261 g47 3 (intVals D105) := (b224.ext hx263)
        have nb283 : some g47 ≠ (Value.slice Ap np cp).ownBlock := (own_ne r269 (by omega : g47 < w144.heap.size))
        have z284 := b282.lt
        have nb285 : some g260 ≠ (Value.slice Ap np cp).ownBlock := nb268
        have z286 := b262.lt
        refine wpl_op (i := 3) rfl (o_appB (zs := intVals (cy ++ ([((D105.getD (P15.backN (eds l) (en D105) j u1) 0) : Int)]))) El25 hF267 rfl rfl rfl rfl rfl (hF267.get rfl) (hF267.get rfl) hf278 (Fl.cel (Fl.blk (S := fun b => b = g260) (k := 1) (n := 1) (c := 1) (cs := intVals [((D105.getD (P15.backN (eds l) (en D105) j u1) 0) : Int)]) b262 rfl (intVals_one _) (by omega) rfl)).2.2 (by omega) (by omega) (by omega) (intVals_app _ _) ?_)
        intro A270 c271 w272 a287 hF288 r273 hg274 z275 z276 hnb277; clear hF267; have z289 := hg274.size
        have nb290 := hnb277 g29 (by omega) nb280
        have nb291 := hnb277 g47 (by omega) nb283
        have nb292 := hnb277 g260 (by omega) nb285
        refine wpl_op (i := 4) rfl (o_val (v := (.slice A270 (np + 1) c271)) hF288 rfl rfl rfl rfl (rn_assign (hF288.get rfl)) ?_)
        intro a293 hF294; clear hF288
        refine wpList_nil ?_
        refine hK254 _ _ ?_
        clear hK254
        have hF295 := (((((((((((hF294.nil.cons (hF294.get (t := 6) (v := (.int .i64 (D105.getD (P15.backN (eds l) (en D105) j u1) 0))) rfl)).cons (hF294.get (t := 5) (v := (.int .i64 (P15.backN (eds l) (en D105) k v1 : Nat))) rfl)).cons (hF294.get (t := 23) (v := (.bool (decide (((k : Nat) : Int) < ((nn : Nat) : Int))))) rfl)).cons (hF294.get (t := 22) (v := (.int .i64 (k : Nat))) rfl)).cons (hF294.get (t := 21) (v := (.int .i64 (nn : Nat))) rfl)).cons (hF294.get (t := 19) (v := (.bool (decide ((last103 : Int) < (0 : Int))))) rfl)).cons (hF294.get (t := 4) (v := (.int .i64 (P15.backN (eds l) (en D105) j u1 : Nat))) rfl)).cons (hF294.get (t := 3) (v := (.pointer (some ⟨g82, 0, none⟩))) rfl)).cons (hF294.get (t := 2) (v := (.slice A270 (np + 1) c271)) rfl)).cons (hF294.get (t := 1) (v := (.pointer (some ⟨g2, 0, none⟩))) rfl)).cons (hF294.get (t := 0) (v := (.agg #[(.int .i64 (nn : Nat)), (.slice A l.length c)])) rfl))
        clear hF294
        refine wp_seq_k (fun K296 hK296 => ?_)
        refine wp_region_lit ?_
        refine wpl_op (i := 0) rfl (o_val (v := (.pointer (some ⟨g2, 1, none⟩))) hF295 rfl rfl rfl rfl (rn_field Try.underlying24 rfl (by kernel_rfl) (hF295.get rfl) rfl) ?_)
        intro a297 hF298; clear hF295
        have b299 : Blk w272 g2 24 [(.int .i64 (nn : Nat)), (.slice A l.length c)] := (grown_blk hf278 hg274 (b222.ext hx263) (by decide))
        refine wpl_op (i := 1) rfl (o_val (v := (.slice A l.length c)) hF298 rfl rfl rfl rfl (rn_load (isAgg_no Try.underlying22 rfl) (hF298.get rfl) (b299.rule.1 1)) ?_)
        intro a300 hF301; clear hF298
        refine wpl_op (i := 2) rfl (o_val (v := (.int .i64 (D105.getD (P15.backN (eds l) (en D105) j u1) 0))) hF301 rfl rfl rfl rfl (rn_move (hF301.get rfl)) ?_)
        intro a302 hF303; clear hF301
        have d307 := (hc.pres (Pres.row (((Pres.refl w).ext hx219).ext hx263) hg274 hf278 (fun b hb h => by simp only [Clip] at h; omega)))
        obtain ⟨b304, o305, hA306, -⟩ := Fl.at d307 (by omega)
        refine wpl_op (i := 3) rfl (o_val (v := (.pointer (some ⟨b304, o305 + ((D105.getD (P15.backN (eds l) (en D105) j u1) 0) : Int).toNat * 3, none⟩))) hF303 rfl rfl rfl rfl (rn_indexE Try.underlying22 (by kernel_rfl : (Try.prog.info? 41).map (·.size) = some 3) ((hF303.get rfl).trans (by rw [hA306])) (hF303.get rfl) (by omega : (0 : Int) ≤ (D105.getD (P15.backN (eds l) (en D105) j u1) 0)) (by omega : ((D105.getD (P15.backN (eds l) (en D105) j u1) 0) : Int) < ((l.length : Nat) : Int)) (by omega)) ?_)
        intro a308 hF309; clear hF303
        refine wpl_op (i := 4) rfl (o_val (v := (.pointer (some ⟨b304, o305 + ((D105.getD (P15.backN (eds l) (en D105) j u1) 0) : Int).toNat * 3, none⟩))) hF309 rfl rfl rfl rfl (rn_field Try.underlying41 rfl (by kernel_rfl) (hF309.get rfl) rfl) ?_)
        intro a310 hF311; clear hF309
        refine wpl_op (i := 5) rfl (o_val (v := (.int .i64 ((l.getD (((D105.getD (P15.backN (eds l) (en D105) j u1) 0) : Int).toNat) default).a))) hF311 rfl rfl rfl rfl (rn_load (isAgg_no Try.underlying3 rfl) (hF311.get rfl) (Fl.recAt edCells_k d307 hA306 (by omega) 0 _ rfl)) ?_)
        intro a312 hF313; clear hF311
        refine wpl_op (i := 6) rfl (o_val (v := (.int .i64 ((l.getD (((D105.getD (P15.backN (eds l) (en D105) j u1) 0) : Int).toNat) default).a))) hF313 rfl rfl rfl rfl (rn_assign (hF313.get rfl)) ?_)
        intro a314 hF315; clear hF313
        refine wpList_nil ?_
        refine hK296 _ _ ?_
        clear hK296
        have hF316 := (((((((((((hF315.nil.cons (hF315.get (t := 6) (v := (.int .i64 (D105.getD (P15.backN (eds l) (en D105) j u1) 0))) rfl)).cons (hF315.get (t := 5) (v := (.int .i64 (P15.backN (eds l) (en D105) k v1 : Nat))) rfl)).cons (hF315.get (t := 23) (v := (.bool (decide (((k : Nat) : Int) < ((nn : Nat) : Int))))) rfl)).cons (hF315.get (t := 22) (v := (.int .i64 (k : Nat))) rfl)).cons (hF315.get (t := 21) (v := (.int .i64 (nn : Nat))) rfl)).cons (hF315.get (t := 19) (v := (.bool (decide ((last103 : Int) < (0 : Int))))) rfl)).cons (hF315.get (t := 4) (v := (.int .i64 ((l.getD (((D105.getD (P15.backN (eds l) (en D105) j u1) 0) : Int).toNat) default).a))) rfl)).cons (hF315.get (t := 3) (v := (.pointer (some ⟨g82, 0, none⟩))) rfl)).cons (hF315.get (t := 2) (v := (.slice A270 (np + 1) c271)) rfl)).cons (hF315.get (t := 1) (v := (.pointer (some ⟨g2, 0, none⟩))) rfl)).cons (hF315.get (t := 0) (v := (.agg #[(.int .i64 (nn : Nat)), (.slice A l.length c)])) rfl))
        clear hF315
        refine wp_seq_k (fun K317 hK317 => ?_)
        refine wp_region_lit ?_
        refine wpl_op (i := 0) rfl (o_val (v := (.int .i64 ((l.getD (((D105.getD (P15.backN (eds l) (en D105) j u1) 0) : Int).toNat) default).a))) hF316 rfl rfl rfl rfl (rn_move (hF316.get rfl)) ?_)
        intro a318 hF319; clear hF316
        refine wpl_op (i := 1) rfl (o_val (v := (.int .i64 (P15.backN (eds l) (en D105) k v1 : Nat))) hF319 rfl rfl rfl rfl (rn_move (hF319.get rfl)) ?_)
        intro a320 hF321; clear hF319
        refine wpl_op (i := 2) rfl (o_val (v := (.bool (decide (((l.getD (((D105.getD (P15.backN (eds l) (en D105) j u1) 0) : Int).toNat) default).a : Int) = ((P15.backN (eds l) (en D105) k v1 : Nat) : Int))))) hF321 rfl rfl rfl rfl (rn_eql (hF321.get rfl) (hF321.get rfl)) ?_)
        intro a322 hF323; clear hF321
        refine wpList_nil ?_
        refine hK317 _ _ ?_
        clear hK317
        by_cases hc324 : ((l.getD (((D105.getD (P15.backN (eds l) (en D105) j u1) 0) : Int).toNat) default).a : Int) = ((P15.backN (eds l) (en D105) k v1 : Nat) : Int)
        · skip
          refine wp_cond_true (c_true hF323 rfl (decide_eq_true hc324)) ?_
          refine wp_exit ?_
          refine exit_past (by decide) ?_
          refine exit_then ?_
          refine exit_here ?_
          refine hK215 _ _ ?_
          clear hK215
          refine wp_seq_k (fun K325 hK325 => ?_)
          refine wp_region_lit ?_
          refine wpl_op (i := 0) rfl (o_val (v := (.slice A270 (np + 1) c271)) hF323 rfl rfl rfl rfl (rn_move (hF323.get rfl)) ?_)
          intro a326 hF327; clear hF323
          have hf328 := r273
          obtain ⟨g332, hAg, hgB⟩ := own_some hf328 (by omega)
          subst hAg
          refine wpl_op (i := 1) rfl (o_call hF327 rfl rfl rfl rfl (rn_call (args1 (hF327.get rfl)) rfl (by kernel_rfl)) (rev_int g332 (np + 1) c271 _ (cy ++ ([((D105.getD (P15.backN (eds l) (en D105) j u1) 0) : Int)])) _ hf328) ?_)
          rintro _ w329 ⟨rfl, r330, hg331⟩
          refine ⟨_, rfl, ?_⟩; intro a333 hF334; clear hF327; have z335 := hg331.size
          refine wpList_nil ?_
          refine hK325 _ _ ?_
          clear hK325
          have hF336 := ((((((((((((hF334.nil.cons (hF334.get (t := 57) (v := (.bool (decide (((l.getD (((D105.getD (P15.backN (eds l) (en D105) j u1) 0) : Int).toNat) default).a : Int) = ((P15.backN (eds l) (en D105) k v1 : Nat) : Int))))) rfl)).cons (hF334.get (t := 6) (v := (.int .i64 (D105.getD (P15.backN (eds l) (en D105) j u1) 0))) rfl)).cons (hF334.get (t := 5) (v := (.int .i64 (P15.backN (eds l) (en D105) k v1 : Nat))) rfl)).cons (hF334.get (t := 23) (v := (.bool (decide (((k : Nat) : Int) < ((nn : Nat) : Int))))) rfl)).cons (hF334.get (t := 22) (v := (.int .i64 (k : Nat))) rfl)).cons (hF334.get (t := 21) (v := (.int .i64 (nn : Nat))) rfl)).cons (hF334.get (t := 19) (v := (.bool (decide ((last103 : Int) < (0 : Int))))) rfl)).cons (hF334.get (t := 4) (v := (.int .i64 ((l.getD (((D105.getD (P15.backN (eds l) (en D105) j u1) 0) : Int).toNat) default).a))) rfl)).cons (hF334.get (t := 3) (v := (.pointer (some ⟨g82, 0, none⟩))) rfl)).cons (hF334.get (t := 2) (v := (.slice (some ⟨g332, 0, none⟩) (np + 1) c271)) rfl)).cons (hF334.get (t := 1) (v := (.pointer (some ⟨g2, 0, none⟩))) rfl)).cons (hF334.get (t := 0) (v := (.agg #[(.int .i64 (nn : Nat)), (.slice A l.length c)])) rfl))
          clear hF334
          refine wp_seq_k (fun K337 hK337 => ?_)
          refine wp_region_lit ?_
          refine wpl_op (i := 0) rfl (o_val (v := (.slice (some ⟨g332, 0, none⟩) (np + 1) c271)) hF336 rfl rfl rfl rfl (rn_move (hF336.get rfl)) ?_)
          intro a338 hF339; clear hF336
          refine wpl_op (i := 1) rfl (o_val (v := (.slice (some ⟨g332, 0, none⟩) (np + 1) c271)) hF339 rfl rfl rfl rfl (rn_assign (hF339.get rfl)) ?_)
          intro a340 hF341; clear hF339
          refine wpList_nil ?_
          refine hK337 _ _ ?_
          clear hK337
          refine wp_ret ?_
          refine scope_ret ?_
          refine ret1 hF341 rfl rfl ?_
          have hjd : j + 1 = d1 := by omega
          subst hjd
          have hcy2 : (cy ++ ([((D105.getD (P15.backN (eds l) (en D105) j u1) 0) : Int)])).reverse = ((List.range (j + 1)).map fun k => D105.getD (P15.backN (eds l) (en D105) k u1) 0).reverse := by rw [List.range_succ, List.map_append, ← hp221]; rfl
          rw [← hcy2] at c8
          exact ⟨_, _, _, _, rfl, Fl.own (S := fun b => w.heap.size ≤ b) r330 (fun b hb => by omega) (intVals_one _), .inr ⟨c8, c9⟩, ((ext_row (((Ext.refl w).trans hx219).trans hx263) hg274 hf278 (by omega)).grownN hg331 (by omega))⟩
        · skip
          refine wp_cond_false (c_false hF323 rfl (decide_eq_false hc324)) ?_
          refine wp_skip ?_
          have b342 : Blk w272 g29 3 (intVals L104) := (b279.grown hg274 nb280)
          have b343 : Blk w272 g47 3 (intVals D105) := (b282.grown hg274 nb283)
          have b344 : Blk w272 g82 61 [(.int .i64 (nn : Nat)), (.slice A l.length c), (.slice (some ⟨g29, 0, none⟩) nn nn), (.slice (some ⟨g47, 0, none⟩) nn nn)] := (grown_blk hf278 hg274 (b225.ext hx263) (by decide))
          refine ⟨⟨(j + 1), A270, np + 1, c271, cy ++ ([((D105.getD (P15.backN (eds l) (en D105) j u1) 0) : Int)]), ((((((((((hF323.nil.cons (q_get hF323 (t := 5) rfl rfl)).cons (q_get hF323 (t := 23) rfl rfl)).cons (q_get hF323 (t := 22) rfl rfl)).cons (q_get hF323 (t := 21) rfl rfl)).cons (q_get hF323 (t := 19) rfl rfl)).cons (q_get hF323 (t := 4) rfl (by first | rfl | (congr 1; omega) | (congr 1; done)))).cons (q_get hF323 (t := 3) rfl rfl)).cons (q_get hF323 (t := 2) rfl (by first | rfl | (congr 1; omega) | (congr 1; done)))).cons (q_get hF323 (t := 1) rfl rfl)).cons (q_get hF323 (t := 0) rfl rfl)), ⟨by omega, by omega⟩, (by rw [List.range_succ, List.map_append, ← hp221]; rfl), (ext_row (((Ext.refl w).trans hx219).trans hx263) hg274 hf278 (by omega)), b299, b342, b343, b344, r273, (by omega), (by omega)⟩, ?_⟩
          rw [hF323.get (t := 2) rfl, hL229.get (t := 2) rfl]; simp only [slLen]; omega
  have b346 : Blk w13 g2 24 [(.int .i64 (nn : Nat)), (.slice A l.length c)] := (b4.ext hx14)
  have hS345 : Ext w13 w13 ∧ Blk w13 g2 24 [(.int .i64 (nn : Nat)), (.slice A l.length c)] := ⟨(Ext.refl w13), b346⟩
  refine any_val (i := 0) (v := (.agg #[(.int .i64 (nn : Nat)), (.slice A l.length c)])) hF11 (by decide +kernel) (by decide +kernel) rfl rfl rfl rfl (fun _ _ _ _ h => h) rfl hS345 (fun W hW => (rn_loadBlk (hF11.get rfl) hW.2 Try.underlying24 rfl (by kernel_rfl : (Try.prog.info? 24).map (·.size) = some 2))) ?_
  intro a347 hF348; clear hF11
  refine any_pure (i := 1) (v := (.pointer (some ⟨g2, 0, none⟩))) hF348 (by decide +kernel) (by decide +kernel) rfl rfl rfl rfl (fun _ _ _ _ h => h) rfl (fun W => (rn_field Try.underlying24 rfl (by kernel_rfl) (hF348.get rfl) rfl)) ?_
  intro a349 hF350; clear hF348
  refine any_val (i := 2) (v := (.int .i64 (nn : Nat))) hF350 (by decide +kernel) (by decide +kernel) rfl rfl rfl rfl (fun _ _ _ _ h => h) rfl hS345 (fun W hW => (rn_load (isAgg_no Try.underlying3 rfl) (hF350.get rfl) (hW.2.rule.1 0))) ?_
  intro a351 hF352; clear hF350
  refine any_pure (i := 4) (v := (.pointer (some ⟨g2, 0, none⟩))) hF352 (by decide +kernel) (by decide +kernel) rfl rfl rfl rfl (fun _ _ _ _ h => h) rfl (fun W => (rn_field Try.underlying24 rfl (by kernel_rfl) (hF352.get rfl) rfl)) ?_
  intro a353 hF354; clear hF352
  refine any_val (i := 5) (v := (.int .i64 (nn : Nat))) hF354 (by decide +kernel) (by decide +kernel) rfl rfl rfl rfl (fun _ _ _ _ h => h) rfl hS345 (fun W hW => (rn_load (isAgg_no Try.underlying3 rfl) (hF354.get rfl) (hW.2.rule.1 0))) ?_
  intro a355 hF356; clear hF354
  refine any_two (i := 3) (k := 6) (by decide +kernel) rfl rfl ?_ ?_
  · skip
    refine o_new (fun g => (.slice (some ⟨g, 0, none⟩) nn nn)) (intVals (List.replicate nn 0)) 3 hF356 rfl rfl rfl rfl (rn_makeN El25 rfl (hF356.get rfl) (hF356.get rfl) (by omega) (by omega) (by simp [intVals])) ?_
    intro g357 w358 a363 hF364 z361 z362 b359 hx360; clear hF356
    have b365 : Blk w358 g2 24 [(.int .i64 (nn : Nat)), (.slice A l.length c)] := (b346.ext hx360)
    refine ⟨fun _ _ => ⟨((Ext.refl w13).trans hx360), b365⟩, ?_⟩
    refine any_one (i := 6) (by decide +kernel) rfl ?_
    refine o_new (fun g => (.slice (some ⟨g, 0, none⟩) nn nn)) (intVals (List.replicate nn 0)) 3 hF364 rfl rfl rfl rfl (rn_makeN El25 rfl (hF364.get rfl) (hF364.get rfl) (by omega) (by omega) (by simp [intVals])) ?_
    intro g366 w367 a372 hF373 z370 z371 b368 hx369; clear hF364
    have b374 : Blk w367 g2 24 [(.int .i64 (nn : Nat)), (.slice A l.length c)] := (b365.ext hx369)
    refine ⟨fun _ _ => ⟨(((Ext.refl w13).trans hx360).trans hx369), b374⟩, ?_⟩
    refine any_pure (i := 7) (v := (.agg #[(.int .i64 (nn : Nat)), (.slice A l.length c), (.slice (some ⟨g357, 0, none⟩) nn nn), (.slice (some ⟨g366, 0, none⟩) nn nn)])) hF373 (by decide +kernel) (by decide +kernel) rfl rfl rfl rfl (fun _ _ _ _ h => h) rfl (fun W => (rn_build (parts3 (hF373.get rfl) (hF373.get rfl) (hF373.get rfl)) (by kernel_rfl))) ?_
    intro a375 hF376; clear hF373
    have b377 : Blk w367 g357 3 (intVals (List.replicate nn 0)) := (b359.ext hx369)
    exact st69 _ _ ⟨g357, g366, ((((hF376.nil.cons (hF376.get (t := 14) (v := (.agg #[(.int .i64 (nn : Nat)), (.slice A l.length c), (.slice (some ⟨g357, 0, none⟩) nn nn), (.slice (some ⟨g366, 0, none⟩) nn nn)])) rfl)).cons (hF376.get (t := 2) (v := (.slice none 0 0)) rfl)).cons (hF376.get (t := 1) (v := (.pointer (some ⟨g2, 0, none⟩))) rfl)).cons (hF376.get (t := 0) (v := (.agg #[(.int .i64 (nn : Nat)), (.slice A l.length c)])) rfl)), (((Ext.refl w13).trans hx360).trans hx369), b377, (by omega), b368, (by omega), (by omega)⟩
  · skip
    refine o_new (fun g => (.slice (some ⟨g, 0, none⟩) nn nn)) (intVals (List.replicate nn 0)) 3 hF356 rfl rfl rfl rfl (rn_makeN El25 rfl (hF356.get rfl) (hF356.get rfl) (by omega) (by omega) (by simp [intVals])) ?_
    intro g378 w379 a384 hF385 z382 z383 b380 hx381; clear hF356
    have b386 : Blk w379 g2 24 [(.int .i64 (nn : Nat)), (.slice A l.length c)] := (b346.ext hx381)
    refine ⟨fun _ _ => ⟨((Ext.refl w13).trans hx381), b386⟩, ?_⟩
    refine any_one (i := 3) (by decide +kernel) rfl ?_
    refine o_new (fun g => (.slice (some ⟨g, 0, none⟩) nn nn)) (intVals (List.replicate nn 0)) 3 hF385 rfl rfl rfl rfl (rn_makeN El25 rfl (hF385.get rfl) (hF385.get rfl) (by omega) (by omega) (by simp [intVals])) ?_
    intro g387 w388 a393 hF394 z391 z392 b389 hx390; clear hF385
    have b395 : Blk w388 g2 24 [(.int .i64 (nn : Nat)), (.slice A l.length c)] := (b386.ext hx390)
    refine ⟨fun _ _ => ⟨(((Ext.refl w13).trans hx381).trans hx390), b395⟩, ?_⟩
    refine any_pure (i := 7) (v := (.agg #[(.int .i64 (nn : Nat)), (.slice A l.length c), (.slice (some ⟨g387, 0, none⟩) nn nn), (.slice (some ⟨g378, 0, none⟩) nn nn)])) hF394 (by decide +kernel) (by decide +kernel) rfl rfl rfl rfl (fun _ _ _ _ h => h) rfl (fun W => (rn_build (parts3 (hF394.get rfl) (hF394.get rfl) (hF394.get rfl)) (by kernel_rfl))) ?_
    intro a396 hF397; clear hF394
    have b398 : Blk w388 g378 3 (intVals (List.replicate nn 0)) := (b380.ext hx390)
    exact st69 _ _ ⟨g387, g378, ((((hF397.nil.cons (hF397.get (t := 14) (v := (.agg #[(.int .i64 (nn : Nat)), (.slice A l.length c), (.slice (some ⟨g387, 0, none⟩) nn nn), (.slice (some ⟨g378, 0, none⟩) nn nn)])) rfl)).cons (hF397.get (t := 2) (v := (.slice none 0 0)) rfl)).cons (hF397.get (t := 1) (v := (.pointer (some ⟨g2, 0, none⟩))) rfl)).cons (hF397.get (t := 0) (v := (.agg #[(.int .i64 (nn : Nat)), (.slice A l.length c)])) rfl)), (((Ext.refl w13).trans hx381).trans hx390), b389, (by omega), b398, (by omega), (by omega)⟩

end Go.Proofs.Ytjmdodgmoehfkaa
