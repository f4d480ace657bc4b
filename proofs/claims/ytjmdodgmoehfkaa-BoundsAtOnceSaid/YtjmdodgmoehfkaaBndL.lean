/- Contracts of Greatest and Least. -/
import Derived.Test.YtjmdodgmoehfkaaProg
import Derived.Test.YtjmdodgmoehfkaaBndK
import Derived.Test.YtjmdodgmoehfkaaSeq4
import Derived.KernelRfl
namespace Go.Proofs.Ytjmdodgmoehfkaa
open Go.RowKit

variable {S S' : Nat → Prop}

set_option maxRecDepth 100000 in
set_option maxHeartbeats 1000000 in
theorem bgreat_any (A : Option Addr) (c : Nat) (n : Int) (l : List E3) (a v : Int) (w : World) (hf : Fl S w 3 (.slice A l.length c) l.length (edVals l)) (hfew : vOk n l = true → n ≤ 8 ∧ l.length ≤ 31) :
    Calls Try.prog 21 #[.agg #[.int .i64 n, .slice A l.length c], .int .i64 a, .int .i64 v] w (fun e w' => ∃ A m c r e2, e = .returned (.tuple #[.slice A m c, .int .i64 e2]) ∧ Fl (fun b => w.heap.size ≤ b) w' 1 (.slice A m c) m (intVals r) ∧ SolP greatL n l a v r e2 ∧ Ext w w') := by
  have hc : Fl (Clip S w) w 3 (.slice A l.length c) l.length (edVals l) := hf.clip
  have hcc := (Fl.cel hc).2.1
  refine calls_enter (l := [(.agg #[(.int .i64 n), (.slice A l.length c)]), (.int .i64 a), (.int .i64 v)]) Try.func21 rfl rfl rfl (fun aA hF => ?_)
  refine wp_seq_k (fun K1 hK1 => ?_)
  refine wp_region_lit ?_
  refine wpl_op (i := 0) rfl (o_new (fun g => (.pointer (some ⟨g, 0, none⟩))) [(.int .i64 n), (.slice A l.length c)] 24 hF rfl rfl rfl rfl (rn_box (hF.get rfl) (by kernel_rfl)) ?_)
  intro g2 w3 a8 hF9 z6 z7 b4 hx5; clear hF
  refine wpl_op (i := 1) rfl (o_val (v := (.slice none 0 0)) hF9 rfl rfl rfl rfl (rn_assign rfl) ?_)
  intro a10 hF11; clear hF9
  refine wpl_op (i := 2) rfl (o_val (v := (.int .i64 0)) hF11 rfl rfl rfl rfl (rn_assign rfl) ?_)
  intro a12 hF13; clear hF11
  refine wpList_nil ?_
  refine hK1 _ _ ?_
  clear hK1
  refine wp_seq_k (fun K14 hK14 => ?_)
  refine wp_region_lit ?_
  refine wpl_op (i := 0) rfl (o_val (v := (.agg #[(.int .i64 n), (.slice A l.length c)])) hF13 rfl rfl rfl rfl (rn_loadBlk (hF13.get rfl) b4 Try.underlying24 rfl (by kernel_rfl : (Try.prog.info? 24).map (·.size) = some 2)) ?_)
  intro a15 hF16; clear hF13
  refine wpl_op (i := 1) rfl (o_val (v := (.int .i64 a)) hF16 rfl rfl rfl rfl (rn_move (hF16.get rfl)) ?_)
  intro a17 hF18; clear hF16
  refine wpl_op (i := 2) rfl (o_val (v := (.int .i64 v)) hF18 rfl rfl rfl rfl (rn_move (hF18.get rfl)) ?_)
  intro a19 hF20; clear hF18
  have d21 := (hc.ext hx5)
  refine wpl_op (i := 3) rfl (o_call hF20 rfl rfl rfl rfl (rn_call (args3 (hF20.get rfl) (hF20.get rfl) (hF20.get rfl)) rfl (by kernel_rfl)) (solve_at (v := (.slice A l.length c)) n l a v _ d21 hfew) ?_)
  rintro _ w31 ⟨A22, m23, c24, t25, er26, e27, rfl, hsp28, he29, htab30, hx32⟩
  refine ⟨_, rfl, ?_⟩; intro a33 hF34; clear hF20; have z35 := hx32.size
  refine wpl_op (i := 4) rfl (o_val (v := (.tuple #[(.slice A22 m23 c24), (.int .i64 e27)])) hF34 rfl rfl rfl rfl (rn_move (hF34.get rfl)) ?_)
  intro a36 hF37; clear hF34
  refine wpl_op (i := 5) rfl (o_val (v := (.slice A22 m23 c24)) hF37 rfl rfl rfl rfl (rn_extract (hF37.get rfl) rfl) ?_)
  intro a38 hF39; clear hF37
  refine wpl_op (i := 6) rfl (o_val (v := (.int .i64 e27)) hF39 rfl rfl rfl rfl (rn_extract (hF39.get rfl) rfl) ?_)
  intro a40 hF41; clear hF39
  refine wpl_op (i := 7) rfl (o_val (v := (.slice A22 m23 c24)) hF41 rfl rfl rfl rfl (rn_assign (hF41.get rfl)) ?_)
  intro a42 hF43; clear hF41
  refine wpl_op (i := 8) rfl (o_val (v := (.int .i64 e27)) hF43 rfl rfl rfl rfl (rn_assign (hF43.get rfl)) ?_)
  intro a44 hF45; clear hF43
  refine wpList_nil ?_
  refine hK14 _ _ ?_
  clear hK14
  have hF46 := (((((((hF45.nil.cons (hF45.get (t := 8) (v := (.slice A22 m23 c24)) rfl)).cons (hF45.get (t := 7) (v := (.int .i64 e27)) rfl)).cons (hF45.get (t := 6) (v := (.slice none 0 0)) rfl)).cons (hF45.get (t := 3) (v := (.pointer (some ⟨g2, 0, none⟩))) rfl)).cons (hF45.get (t := 2) (v := (.int .i64 v)) rfl)).cons (hF45.get (t := 1) (v := (.int .i64 a)) rfl)).cons (hF45.get (t := 0) (v := (.agg #[(.int .i64 n), (.slice A l.length c)])) rfl))
  clear hF45
  refine wp_seq_k (fun K47 hK47 => ?_)
  refine wp_seq_k (fun K48 hK48 => ?_)
  refine wp_region_lit ?_
  refine wpl_op (i := 0) rfl (o_val (v := (.int .i64 e27)) hF46 rfl rfl rfl rfl (rn_move (hF46.get rfl)) ?_)
  intro a49 hF50; clear hF46
  refine wpl_op (i := 1) rfl (o_val (v := (.bool (decide ((e27 : Int) ≠ (0 : Int))))) hF50 rfl rfl rfl rfl (rn_neq (hF50.get rfl) rfl) ?_)
  intro a51 hF52; clear hF50
  refine wpList_nil ?_
  refine hK48 _ _ ?_
  clear hK48
  by_cases hc53 : (e27 : Int) ≠ (0 : Int)
  · skip
    refine wp_cond_true (c_true hF52 rfl (decide_eq_true hc53)) ?_
    refine wp_seq_k (fun K54 hK54 => ?_)
    refine wp_region_lit ?_
    refine wpl_op (i := 0) rfl (o_val (v := (.int .i64 e27)) hF52 rfl rfl rfl rfl (rn_move (hF52.get rfl)) ?_)
    intro a55 hF56; clear hF52
    refine wpl_op (i := 1) rfl (o_val (v := (.slice none 0 0)) hF56 rfl rfl rfl rfl (rn_assign rfl) ?_)
    intro a57 hF58; clear hF56
    refine wpl_op (i := 2) rfl (o_val (v := (.int .i64 e27)) hF58 rfl rfl rfl rfl (rn_assign (hF58.get rfl)) ?_)
    intro a59 hF60; clear hF58
    refine wpList_nil ?_
    refine hK54 _ _ ?_
    clear hK54
    refine wp_ret ?_
    refine ret_then ?_
    refine ret2 hF60 rfl rfl rfl ?_
    exact ⟨_, _, _, [], _, rfl, Fl.nil _, ⟨t25, er26, hsp28, he29, by rw [if_neg (by omega)]⟩, (((Ext.refl w).trans hx5).trans hx32)⟩
  · skip
    refine wp_cond_false (c_false hF52 rfl (decide_eq_false hc53)) ?_
    refine wp_skip ?_
    refine hK47 _ _ ?_
    clear hK47
    refine wp_seq_k (fun K61 hK61 => ?_)
    refine wp_seq_k (fun K62 hK62 => ?_)
    obtain ⟨her, hso⟩ := solR_0 he29 (by omega)
    obtain ⟨hvo, hng, hdt⟩ := hsp28.zero her
    have hn1 := vOk_n hvo
    obtain ⟨hat, hall, hv1, hv2⟩ := solve_get hso
    have htl := hdt.len
    have hf63 := htab30 (by omega)
    have hf64 : RIss (Clip (fun b => w3.heap.size ≤ b) w31) w31 (.slice A22 m23 c24) t25 := hf63.clip
    have htm := RIss.len hf63
    refine wp_region_lit ?_
    refine wpl_op (i := 0) rfl (o_val (v := (.slice A22 m23 c24)) hF52 rfl rfl rfl rfl (rn_move (hF52.get rfl)) ?_)
    intro a65 hF66; clear hF52
    refine wpl_op (i := 1) rfl (o_val (v := (.int .i64 (m23 : Nat))) hF66 rfl rfl rfl rfl (rn_len_slice Try.underlying33 (hF66.get rfl)) ?_)
    intro a67 hF68; clear hF66
    refine wpl_op (i := 2) rfl (o_val (v := (.int .i64 0)) hF68 rfl rfl rfl rfl (rn_move rfl) ?_)
    intro a69 hF70; clear hF68
    refine wpList_nil ?_
    refine hK62 _ _ ?_
    clear hK62
    refine wp_block ?_
    have b71 : Blk w31 g2 24 [(.int .i64 n), (.slice A l.length c)] := (b4.ext hx32)
    refine wp_loop (fun a' W => ∃ (k : Nat) (Ar : Option Addr) (nr : Nat) (cr : Nat) (r1 : List Int), Sl 46 [(0, (.agg #[(.int .i64 n), (.slice A l.length c)])), (1, (.int .i64 a)), (2, (.int .i64 v)), (3, (.pointer (some ⟨g2, 0, none⟩))), (6, (.slice Ar nr cr)), (7, (.int .i64 e27)), (8, (.slice A22 m23 c24)), (18, (.bool (decide ((e27 : Int) ≠ (0 : Int))))), (21, (.int .i64 (m23 : Nat))), (22, (.int .i64 (k : Nat)))] a' ∧ (k ≤ n.toNat ∧ nr = k) ∧ r1 = greatL n t25 a v k ∧ Ext w W ∧ Blk W g2 24 [(.int .i64 n), (.slice A l.length c)] ∧ W.ownsRow w31.heap.size 3 1 (.slice Ar nr cr) nr (intVals r1) ∧ RIss (Clip (fun b => w3.heap.size ≤ b) w31) W (.slice A22 m23 c24) t25 ∧ w31.heap.size ≤ W.heap.size ∧ w31.heap.size ≤ W.heap.size) (fun a' _ => n.toNat - (intOf (a'.eval (.tmp 22))).toNat) ⟨0, none, 0, 0, [], ((((((((((hF70.nil.cons (q_get hF70 (t := 22) rfl (by first | rfl | (congr 1; omega) | (congr 1; done)))).cons (q_get hF70 (t := 21) rfl rfl)).cons (q_get hF70 (t := 18) rfl rfl)).cons (q_get hF70 (t := 8) rfl rfl)).cons (q_get hF70 (t := 7) rfl rfl)).cons (q_get hF70 (t := 6) rfl (by first | rfl | (congr 1; omega) | (congr 1; done)))).cons (q_get hF70 (t := 3) rfl rfl)).cons (q_get hF70 (t := 2) rfl rfl)).cons (q_get hF70 (t := 1) rfl rfl)).cons (q_get hF70 (t := 0) rfl rfl)), ⟨by omega, rfl⟩, rfl, (((Ext.refl w).trans hx5).trans hx32), b71, (own_nil w31 w31.heap.size 3 1), hf64, (by omega), (Nat.le_refl _)⟩ ?_
    clear hF70
    rintro a72 w73 ⟨k, Ar, nr, cr, r1, hF74, hp76, hp77, hx75, b78, r79, hf80, hf81, hf82⟩
    have hL83 := hF74
    have z84 := hx75.size
    have z85 := b78.lt
    have z86 := own_form0 r79
    refine wp_seq_k (fun K87 hK87 => ?_)
    refine wp_region_lit ?_
    refine wpl_op (i := 0) rfl (o_val (v := (.bool (decide (((k : Nat) : Int) < ((m23 : Nat) : Int))))) hF74 rfl rfl rfl rfl (rn_lss (hF74.get rfl) (hF74.get rfl)) ?_)
    intro a88 hF89; clear hF74
    refine wpList_nil ?_
    refine hK87 _ _ ?_
    clear hK87
    refine wp_seq_k (fun K90 hK90 => ?_)
    by_cases hc91 : ((k : Nat) : Int) < ((m23 : Nat) : Int)
    · skip
      refine wp_cond_true (c_true hF89 rfl (decide_eq_true hc91)) ?_
      refine wp_skip ?_
      refine hK90 _ _ ?_
      clear hK90
      refine wp_seq_k (fun K92 hK92 => ?_)
      refine wp_block ?_
      refine wp_seq_k (fun K93 hK93 => ?_)
      refine wp_region_lit ?_
      refine wpl_op (i := 0) rfl (o_val (v := (.int .i64 (k : Nat))) hF89 rfl rfl rfl rfl (rn_move (hF89.get rfl)) ?_)
      intro a94 hF95; clear hF89
      refine wpl_op (i := 1) rfl (o_val (v := (.int .i64 (k : Nat))) hF95 rfl rfl rfl rfl (rn_assign (hF95.get rfl)) ?_)
      intro a96 hF97; clear hF95
      refine wpList_nil ?_
      refine hK93 _ _ ?_
      clear hK93
      have z98 := hdt.sm (0) (k) (by omega) (by omega); simp only [T] at z98
      have z99 := hdt.sm (a.toNat) (k) (by omega) (by omega); simp only [T] at z99
      have z100 := hdt.sm (a.toNat) (0) (by omega) (by omega); simp only [T] at z100
      have z101 := hdt.sm (0) (a.toNat) (by omega) (by omega); simp only [T] at z101
      have hv3 := hv1; have hv4 := hv2; simp only [T] at hv3 hv4
      have hx103 : ∃ W, w73.drew = W ∧ Ext w73 W := ⟨_, rfl, (Ext.refl _).drew⟩
      obtain ⟨w102, e104, hx103⟩ := hx103
      have z105 := hx103.size
      refine any_start (fun W => Ext w102 W) (fun i => i == 18) 20 #[false, false, false, false, false, false, false, false, false, false, false, false, false, false, false, false, false, false, false, false] rfl rfl rfl ?_
      rw [e104]; clear e104
      refine any_pure (i := 0) (v := (.slice Ar nr cr)) hF97 (by decide +kernel) (by decide +kernel) rfl rfl rfl rfl (fun _ _ _ _ h => h) rfl (fun W => (rn_move (hF97.get rfl))) ?_
      intro a106 hF107; clear hF97
      refine any_pure (i := 1) (v := (.slice A22 m23 c24)) hF107 (by decide +kernel) (by decide +kernel) rfl rfl rfl rfl (fun _ _ _ _ h => h) rfl (fun W => (rn_move (hF107.get rfl))) ?_
      intro a108 hF109; clear hF107
      have d120 := (hf80.ext hx103)
      obtain ⟨b110, o111, A112, c113, hA114, hl115, hc116, hr117, z118, z119⟩ := RIss.get (i := 0) d120 (by omega)
      have z121 := hdt.row 0 (by omega)
      refine any_pure (i := 2) (v := (.pointer (some ⟨b110, o111 + 0, none⟩))) hF109 (by decide +kernel) (by decide +kernel) rfl rfl rfl rfl (fun _ _ _ _ h => h) rfl (fun W => (rn_index1 Try.underlying33 (by kernel_rfl : (Try.prog.info? 25).map (·.size) = some 1) ((hF109.get rfl).trans (by rw [hA114])) rfl (by omega : (0 : Int) ≤ 0) (by omega : (0 : Int) < ((m23 : Nat) : Int)))) ?_
      intro a122 hF123; clear hF109
      have hS124 : Ext w102 w102 := (Ext.refl w102)
      refine anyt_val (i := 3) (v := (.slice A112 ((t25.getD 0 []).length) c113)) [5, 6, 16, 17, 18] hF123 (fun j hj => by simp at hj; subst hj; decide) (by decide +kernel) (by decide +kernel) rfl rfl rfl rfl (fun _ _ _ _ h => h) rfl hS124 (fun W hW => (rn_load (isAgg_no Try.underlying25 rfl) (hF123.get rfl) (Ext.keep ((Ext.refl w102).trans hW) hc116))) ?_
      intro a125 hF126; clear hF123
      refine any_pure (i := 4) (v := (.int .i64 (k : Nat))) hF126 (by decide +kernel) (by decide +kernel) rfl rfl rfl rfl (fun _ _ _ _ h => h) rfl (fun W => (rn_move (hF126.get rfl))) ?_
      intro a127 hF128; clear hF126
      obtain ⟨b129, o130, hA131, -⟩ := Fl.at hr117 (by omega)
      refine any_pure (i := 5) (v := (.pointer (some ⟨b129, o130 + k, none⟩))) hF128 (by decide +kernel) (by decide +kernel) rfl rfl rfl rfl (fun _ _ _ _ h => h) rfl (fun W => (rn_index1 Try.underlying25 (by kernel_rfl : (Try.prog.info? 3).map (·.size) = some 1) ((hF128.get rfl).trans (by rw [hA131])) (hF128.get rfl) (by omega : (0 : Int) ≤ (k : Nat)) (by omega : ((k : Nat) : Int) < (((t25.getD 0 []).length : Nat) : Int)))) ?_
      intro a132 hF133; clear hF128
      refine anyt_val (i := 6) (v := (.int .i64 ((t25.getD 0 []).getD k 0))) [16, 17, 18] hF133 (fun j hj => by simp at hj; subst hj; decide) (by decide +kernel) (by decide +kernel) rfl rfl rfl rfl (fun _ _ _ _ h => h) rfl hS124 (fun W hW => (rn_load (isAgg_no Try.underlying3 rfl) (hF133.get rfl) (Fl.cellAt (hr117.ext hW) hA131 (intVals_at (i := k) (by omega))))) ?_
      intro a134 hF135; clear hF133
      refine any_pure (i := 7) (v := (.int .i64 v)) hF135 (by decide +kernel) (by decide +kernel) rfl rfl rfl rfl (fun _ _ _ _ h => h) rfl (fun W => (rn_move (hF135.get rfl))) ?_
      intro a136 hF137; clear hF135
      refine any_pure (i := 8) (v := (.slice A22 m23 c24)) hF137 (by decide +kernel) (by decide +kernel) rfl rfl rfl rfl (fun _ _ _ _ h => h) rfl (fun W => (rn_move (hF137.get rfl))) ?_
      intro a138 hF139; clear hF137
      refine any_pure (i := 9) (v := (.int .i64 a)) hF139 (by decide +kernel) (by decide +kernel) rfl rfl rfl rfl (fun _ _ _ _ h => h) rfl (fun W => (rn_move (hF139.get rfl))) ?_
      intro a140 hF141; clear hF139
      obtain ⟨b142, o143, A144, c145, hA146, hl147, hc148, hr149, z150, z151⟩ := RIss.get (i := (a : Int).toNat) d120 (by omega)
      have z152 := hdt.row ((a : Int).toNat) (by omega)
      refine any_pure (i := 10) (v := (.pointer (some ⟨b142, o143 + (a : Int).toNat, none⟩))) hF141 (by decide +kernel) (by decide +kernel) rfl rfl rfl rfl (fun _ _ _ _ h => h) rfl (fun W => (rn_index1 Try.underlying33 (by kernel_rfl : (Try.prog.info? 25).map (·.size) = some 1) ((hF141.get rfl).trans (by rw [hA146])) (hF141.get rfl) (by omega : (0 : Int) ≤ a) (by omega : (a : Int) < ((m23 : Nat) : Int)))) ?_
      intro a153 hF154; clear hF141
      refine anyt_val (i := 11) (v := (.slice A144 ((t25.getD ((a : Int).toNat) []).length) c145)) [13, 14, 15, 16, 17, 18] hF154 (fun j hj => by simp at hj; subst hj; decide) (by decide +kernel) (by decide +kernel) rfl rfl rfl rfl (fun _ _ _ _ h => h) rfl hS124 (fun W hW => (rn_load (isAgg_no Try.underlying25 rfl) (hF154.get rfl) (Ext.keep ((Ext.refl w102).trans hW) hc148))) ?_
      intro a155 hF156; clear hF154
      refine any_pure (i := 12) (v := (.int .i64 (k : Nat))) hF156 (by decide +kernel) (by decide +kernel) rfl rfl rfl rfl (fun _ _ _ _ h => h) rfl (fun W => (rn_move (hF156.get rfl))) ?_
      intro a157 hF158; clear hF156
      obtain ⟨b159, o160, hA161, -⟩ := Fl.at hr149 (by omega)
      refine any_pure (i := 13) (v := (.pointer (some ⟨b159, o160 + k, none⟩))) hF158 (by decide +kernel) (by decide +kernel) rfl rfl rfl rfl (fun _ _ _ _ h => h) rfl (fun W => (rn_index1 Try.underlying25 (by kernel_rfl : (Try.prog.info? 3).map (·.size) = some 1) ((hF158.get rfl).trans (by rw [hA161])) (hF158.get rfl) (by omega : (0 : Int) ≤ (k : Nat)) (by omega : ((k : Nat) : Int) < (((t25.getD ((a : Int).toNat) []).length : Nat) : Int)))) ?_
      intro a162 hF163; clear hF158
      refine anyt_val (i := 14) (v := (.int .i64 ((t25.getD ((a : Int).toNat) []).getD k 0))) [15, 16, 17, 18] hF163 (fun j hj => by simp at hj; subst hj; decide) (by decide +kernel) (by decide +kernel) rfl rfl rfl rfl (fun _ _ _ _ h => h) rfl hS124 (fun W hW => (rn_load (isAgg_no Try.underlying3 rfl) (hF163.get rfl) (Fl.cellAt (hr149.ext hW) hA161 (intVals_at (i := k) (by omega))))) ?_
      intro a164 hF165; clear hF163
      refine any_pure (i := 15) (v := (.int .i64 (v + ((t25.getD ((a : Int).toNat) []).getD k 0)))) hF165 (by decide +kernel) (by decide +kernel) rfl rfl rfl rfl (fun _ _ _ _ h => h) rfl (fun W => (rn_add (hF165.get rfl) (hF165.get rfl) (by omega) (by omega))) ?_
      intro a166 hF167; clear hF165
      refine any_pure (i := 16) (v := (.int .i64 (min (((t25.getD 0 []).getD k 0) : Int) (v + ((t25.getD ((a : Int).toNat) []).getD k 0) : Int)))) hF167 (by decide +kernel) (by decide +kernel) rfl rfl rfl rfl (fun _ _ _ _ h => h) rfl (fun W => (rn_min2 Try.underlying3 (hF167.get rfl) (hF167.get rfl))) ?_
      intro a168 hF169; clear hF167
      refine any_one (i := 17) (by decide +kernel) rfl ?_
      refine o_new (fun g => (.slice (some ⟨g, 0, none⟩) 1 1)) [(.int .i64 (min (((t25.getD 0 []).getD k 0) : Int) (v + ((t25.getD ((a : Int).toNat) []).getD k 0) : Int)))] 3 hF169 rfl rfl rfl rfl (rn_buildSlice (parts1 (hF169.get rfl)) (by kernel_rfl)) ?_
      intro g170 w171 a176 hF177 z174 z175 b172 hx173; clear hF169
      refine ⟨fun _ _ => ((Ext.refl w102).trans hx173), ?_⟩
      refine any_one (i := 18) (by decide +kernel) rfl ?_
      have r178 := (own_ext (own_ext r79 hx103) hx173)
      have hf186 := r178
      refine o_appA (zs := intVals (r1 ++ ([(min (((t25.getD 0 []).getD k 0) : Int) (v + ((t25.getD ((a : Int).toNat) []).getD k 0) : Int) : Int)]))) El25 hF177 rfl rfl rfl rfl rfl (hF177.get rfl) (hF177.get rfl) hf186 (Fl.cel (Fl.blk (S := fun b => b = g170) (k := 1) (n := 1) (c := 1) (cs := intVals [(min (((t25.getD 0 []).getD k 0) : Int) (v + ((t25.getD ((a : Int).toNat) []).getD k 0) : Int) : Int)]) b172 rfl (intVals_one _) (by omega) rfl)).2.2 (by omega) (by omega) (by omega) (intVals_app _ _) ?_
      intro A179 c180 w181 a187 hF188 r182 hg183 z184 z185; clear hF177; have z189 := hg183.size
      refine ⟨fun h => absurd h (by decide), ?_⟩
      refine any_pure (i := 19) (v := (.slice A179 (nr + 1) c180)) hF188 (by decide +kernel) (by decide +kernel) rfl rfl rfl rfl (fun _ _ _ _ h => h) rfl (fun W => (rn_assign (hF188.get rfl))) ?_
      intro a190 hF191; clear hF188
      refine any_nil (by decide +kernel) ?_
      refine hK92 _ _ ?_
      clear hK92
      have hF192 := ((((((((((((hF191.nil.cons (hF191.get (t := 9) (v := (.int .i64 (k : Nat))) rfl)).cons (hF191.get (t := 23) (v := (.bool (decide (((k : Nat) : Int) < ((m23 : Nat) : Int))))) rfl)).cons (hF191.get (t := 22) (v := (.int .i64 (k : Nat))) rfl)).cons (hF191.get (t := 21) (v := (.int .i64 (m23 : Nat))) rfl)).cons (hF191.get (t := 18) (v := (.bool (decide ((e27 : Int) ≠ (0 : Int))))) rfl)).cons (hF191.get (t := 8) (v := (.slice A22 m23 c24)) rfl)).cons (hF191.get (t := 7) (v := (.int .i64 e27)) rfl)).cons (hF191.get (t := 6) (v := (.slice A179 (nr + 1) c180)) rfl)).cons (hF191.get (t := 3) (v := (.pointer (some ⟨g2, 0, none⟩))) rfl)).cons (hF191.get (t := 2) (v := (.int .i64 v)) rfl)).cons (hF191.get (t := 1) (v := (.int .i64 a)) rfl)).cons (hF191.get (t := 0) (v := (.agg #[(.int .i64 n), (.slice A l.length c)])) rfl))
      clear hF191
      refine wp_region_lit ?_
      refine wpl_op (i := 0) rfl (o_val (v := (.int .i64 (k + 1 : Nat))) hF192 rfl rfl rfl rfl (rn_addN (a := k) (b := 1) (hF192.get rfl) rfl (by omega)) ?_)
      intro a193 hF194; clear hF192
      refine wpl_op (i := 1) rfl (o_val (v := (.int .i64 (k + 1 : Nat))) hF194 rfl rfl rfl rfl (rn_move (hF194.get rfl)) ?_)
      intro a195 hF196; clear hF194
      refine wpList_nil ?_
      have d197 := (hf80.pres (Pres.row (((Pres.refl w73).ext hx103).ext hx173) hg183 hf186 (fun b hb h => by simp only [Clip] at h; omega)))
      have b198 : Blk w181 g2 24 [(.int .i64 n), (.slice A l.length c)] := (grown_blk hf186 hg183 ((b78.ext hx103).ext hx173) (by decide))
      refine ⟨⟨(k + 1), A179, nr + 1, c180, r1 ++ ([(min (((t25.getD 0 []).getD k 0) : Int) (v + ((t25.getD ((a : Int).toNat) []).getD k 0) : Int) : Int)]), ((((((((((hF196.nil.cons (q_get hF196 (t := 22) rfl (by first | rfl | (congr 1; omega) | (congr 1; done)))).cons (q_get hF196 (t := 21) rfl rfl)).cons (q_get hF196 (t := 18) rfl rfl)).cons (q_get hF196 (t := 8) rfl rfl)).cons (q_get hF196 (t := 7) rfl rfl)).cons (q_get hF196 (t := 6) rfl (by first | rfl | (congr 1; omega) | (congr 1; done)))).cons (q_get hF196 (t := 3) rfl rfl)).cons (q_get hF196 (t := 2) rfl rfl)).cons (q_get hF196 (t := 1) rfl rfl)).cons (q_get hF196 (t := 0) rfl rfl)), ⟨by omega, by omega⟩, (by rw [hp77]; exact greatL_step _ _ _ _ _), (ext_row ((((Ext.refl w).trans hx75).trans hx103).trans hx173) hg183 hf186 (by omega)), b198, r182, d197, (by omega), (by omega)⟩, ?_⟩
      rw [hF196.get (t := 22) rfl, hL83.get (t := 22) rfl]; simp [intOf] <;> omega
    · skip
      refine wp_cond_false (c_false hF89 rfl (decide_eq_false hc91)) ?_
      refine wp_exit ?_
      refine exit_then ?_
      refine exit_then ?_
      refine exit_here ?_
      refine hK61 _ _ ?_
      clear hK61
      refine wp_seq_k (fun K199 hK199 => ?_)
      refine wp_region_lit ?_
      refine wpl_op (i := 0) rfl (o_val (v := (.slice Ar nr cr)) hF89 rfl rfl rfl rfl (rn_move (hF89.get rfl)) ?_)
      intro a200 hF201; clear hF89
      refine wpl_op (i := 1) rfl (o_val (v := (.slice Ar nr cr)) hF201 rfl rfl rfl rfl (rn_assign (hF201.get rfl)) ?_)
      intro a202 hF203; clear hF201
      refine wpl_op (i := 2) rfl (o_val (v := (.int .i64 0)) hF203 rfl rfl rfl rfl (rn_assign rfl) ?_)
      intro a204 hF205; clear hF203
      refine wpList_nil ?_
      refine hK199 _ _ ?_
      clear hK199
      refine wp_ret ?_
      refine ret2 hF205 rfl rfl rfl ?_
      have hk : k = n.toNat := by omega
      have hf206 := (Fl.own (S := fun b => w.heap.size ≤ b) r79 (fun b hb => by omega) (intVals_one _))
      have he0 : e27 = 0 := by omega
      exact ⟨_, _, _, r1, _, rfl, hf206, ⟨t25, er26, hsp28, by rw [← he0]; exact he29, by rw [if_pos rfl, hp77, hk]⟩, ((Ext.refl w).trans hx75)⟩

theorem bgreat_at {v : Value} {m : Nat} (n : Int) (l : List E3) (a val : Int) (w : World) (hf : Fl S w 3 v m (edVals l)) (hfew : vOk n l = true → n ≤ 8 ∧ l.length ≤ 31) :
    Calls Try.prog 21 #[.agg #[.int .i64 n, v], .int .i64 a, .int .i64 val] w (fun e w' => ∃ A m c r e2, e = .returned (.tuple #[.slice A m c, .int .i64 e2]) ∧ Fl (fun b => w.heap.size ≤ b) w' 1 (.slice A m c) m (intVals r) ∧ SolP greatL n l a val r e2 ∧ Ext w w') := by
  have hm := Fl.edlen hf
  subst hm
  obtain ⟨A, c, rfl, _⟩ := hf.form
  exact bgreat_any A c n l a val w hf hfew

set_option maxRecDepth 100000 in
set_option maxHeartbeats 1000000 in
theorem bleast_any (A : Option Addr) (c : Nat) (n : Int) (l : List E3) (a v : Int) (w : World) (hf : Fl S w 3 (.slice A l.length c) l.length (edVals l)) (hfew : vOk n l = true → n ≤ 8 ∧ l.length ≤ 31) :
    Calls Try.prog 23 #[.agg #[.int .i64 n, .slice A l.length c], .int .i64 a, .int .i64 v] w (fun e w' => ∃ A m c r e2, e = .returned (.tuple #[.slice A m c, .int .i64 e2]) ∧ Fl (fun b => w.heap.size ≤ b) w' 1 (.slice A m c) m (intVals r) ∧ SolP leastL n l a v r e2 ∧ Ext w w') := by
  have hc : Fl (Clip S w) w 3 (.slice A l.length c) l.length (edVals l) := hf.clip
  have hcc := (Fl.cel hc).2.1
  refine calls_enter (l := [(.agg #[(.int .i64 n), (.slice A l.length c)]), (.int .i64 a), (.int .i64 v)]) Try.func23 rfl rfl rfl (fun aA hF => ?_)
  refine wp_seq_k (fun K1 hK1 => ?_)
  refine wp_region_lit ?_
  refine wpl_op (i := 0) rfl (o_new (fun g => (.pointer (some ⟨g, 0, none⟩))) [(.int .i64 n), (.slice A l.length c)] 24 hF rfl rfl rfl rfl (rn_box (hF.get rfl) (by kernel_rfl)) ?_)
  intro g2 w3 a8 hF9 z6 z7 b4 hx5; clear hF
  refine wpl_op (i := 1) rfl (o_val (v := (.slice none 0 0)) hF9 rfl rfl rfl rfl (rn_assign rfl) ?_)
  intro a10 hF11; clear hF9
  refine wpl_op (i := 2) rfl (o_val (v := (.int .i64 0)) hF11 rfl rfl rfl rfl (rn_assign rfl) ?_)
  intro a12 hF13; clear hF11
  refine wpList_nil ?_
  refine hK1 _ _ ?_
  clear hK1
  refine wp_seq_k (fun K14 hK14 => ?_)
  refine wp_region_lit ?_
  refine wpl_op (i := 0) rfl (o_val (v := (.agg #[(.int .i64 n), (.slice A l.length c)])) hF13 rfl rfl rfl rfl (rn_loadBlk (hF13.get rfl) b4 Try.underlying24 rfl (by kernel_rfl : (Try.prog.info? 24).map (·.size) = some 2)) ?_)
  intro a15 hF16; clear hF13
  refine wpl_op (i := 1) rfl (o_val (v := (.int .i64 a)) hF16 rfl rfl rfl rfl (rn_move (hF16.get rfl)) ?_)
  intro a17 hF18; clear hF16
  refine wpl_op (i := 2) rfl (o_val (v := (.int .i64 v)) hF18 rfl rfl rfl rfl (rn_move (hF18.get rfl)) ?_)
  intro a19 hF20; clear hF18
  have d21 := (hc.ext hx5)
  refine wpl_op (i := 3) rfl (o_call hF20 rfl rfl rfl rfl (rn_call (args3 (hF20.get rfl) (hF20.get rfl) (hF20.get rfl)) rfl (by kernel_rfl)) (solve_at (v := (.slice A l.length c)) n l a v _ d21 hfew) ?_)
  rintro _ w31 ⟨A22, m23, c24, t25, er26, e27, rfl, hsp28, he29, htab30, hx32⟩
  refine ⟨_, rfl, ?_⟩; intro a33 hF34; clear hF20; have z35 := hx32.size
  refine wpl_op (i := 4) rfl (o_val (v := (.tuple #[(.slice A22 m23 c24), (.int .i64 e27)])) hF34 rfl rfl rfl rfl (rn_move (hF34.get rfl)) ?_)
  intro a36 hF37; clear hF34
  refine wpl_op (i := 5) rfl (o_val (v := (.slice A22 m23 c24)) hF37 rfl rfl rfl rfl (rn_extract (hF37.get rfl) rfl) ?_)
  intro a38 hF39; clear hF37
  refine wpl_op (i := 6) rfl (o_val (v := (.int .i64 e27)) hF39 rfl rfl rfl rfl (rn_extract (hF39.get rfl) rfl) ?_)
  intro a40 hF41; clear hF39
  refine wpl_op (i := 7) rfl (o_val (v := (.slice A22 m23 c24)) hF41 rfl rfl rfl rfl (rn_assign (hF41.get rfl)) ?_)
  intro a42 hF43; clear hF41
  refine wpl_op (i := 8) rfl (o_val (v := (.int .i64 e27)) hF43 rfl rfl rfl rfl (rn_assign (hF43.get rfl)) ?_)
  intro a44 hF45; clear hF43
  refine wpList_nil ?_
  refine hK14 _ _ ?_
  clear hK14
  have hF46 := (((((((hF45.nil.cons (hF45.get (t := 8) (v := (.slice A22 m23 c24)) rfl)).cons (hF45.get (t := 7) (v := (.int .i64 e27)) rfl)).cons (hF45.get (t := 6) (v := (.slice none 0 0)) rfl)).cons (hF45.get (t := 3) (v := (.pointer (some ⟨g2, 0, none⟩))) rfl)).cons (hF45.get (t := 2) (v := (.int .i64 v)) rfl)).cons (hF45.get (t := 1) (v := (.int .i64 a)) rfl)).cons (hF45.get (t := 0) (v := (.agg #[(.int .i64 n), (.slice A l.length c)])) rfl))
  clear hF45
  refine wp_seq_k (fun K47 hK47 => ?_)
  refine wp_seq_k (fun K48 hK48 => ?_)
  refine wp_region_lit ?_
  refine wpl_op (i := 0) rfl (o_val (v := (.int .i64 e27)) hF46 rfl rfl rfl rfl (rn_move (hF46.get rfl)) ?_)
  intro a49 hF50; clear hF46
  refine wpl_op (i := 1) rfl (o_val (v := (.bool (decide ((e27 : Int) ≠ (0 : Int))))) hF50 rfl rfl rfl rfl (rn_neq (hF50.get rfl) rfl) ?_)
  intro a51 hF52; clear hF50
  refine wpList_nil ?_
  refine hK48 _ _ ?_
  clear hK48
  by_cases hc53 : (e27 : Int) ≠ (0 : Int)
  · skip
    refine wp_cond_true (c_true hF52 rfl (decide_eq_true hc53)) ?_
    refine wp_seq_k (fun K54 hK54 => ?_)
    refine wp_region_lit ?_
    refine wpl_op (i := 0) rfl (o_val (v := (.int .i64 e27)) hF52 rfl rfl rfl rfl (rn_move (hF52.get rfl)) ?_)
    intro a55 hF56; clear hF52
    refine wpl_op (i := 1) rfl (o_val (v := (.slice none 0 0)) hF56 rfl rfl rfl rfl (rn_assign rfl) ?_)
    intro a57 hF58; clear hF56
    refine wpl_op (i := 2) rfl (o_val (v := (.int .i64 e27)) hF58 rfl rfl rfl rfl (rn_assign (hF58.get rfl)) ?_)
    intro a59 hF60; clear hF58
    refine wpList_nil ?_
    refine hK54 _ _ ?_
    clear hK54
    refine wp_ret ?_
    refine ret_then ?_
    refine ret2 hF60 rfl rfl rfl ?_
    exact ⟨_, _, _, [], _, rfl, Fl.nil _, ⟨t25, er26, hsp28, he29, by rw [if_neg (by omega)]⟩, (((Ext.refl w).trans hx5).trans hx32)⟩
  · skip
    refine wp_cond_false (c_false hF52 rfl (decide_eq_false hc53)) ?_
    refine wp_skip ?_
    refine hK47 _ _ ?_
    clear hK47
    refine wp_seq_k (fun K61 hK61 => ?_)
    refine wp_seq_k (fun K62 hK62 => ?_)
    obtain ⟨her, hso⟩ := solR_0 he29 (by omega)
    obtain ⟨hvo, hng, hdt⟩ := hsp28.zero her
    have hn1 := vOk_n hvo
    obtain ⟨hat, hall, hv1, hv2⟩ := solve_get hso
    have htl := hdt.len
    have hf63 := htab30 (by omega)
    have hf64 : RIss (Clip (fun b => w3.heap.size ≤ b) w31) w31 (.slice A22 m23 c24) t25 := hf63.clip
    have htm := RIss.len hf63
    refine wp_region_lit ?_
    refine wpl_op (i := 0) rfl (o_val (v := (.slice A22 m23 c24)) hF52 rfl rfl rfl rfl (rn_move (hF52.get rfl)) ?_)
    intro a65 hF66; clear hF52
    refine wpl_op (i := 1) rfl (o_val (v := (.int .i64 (m23 : Nat))) hF66 rfl rfl rfl rfl (rn_len_slice Try.underlying33 (hF66.get rfl)) ?_)
    intro a67 hF68; clear hF66
    refine wpl_op (i := 2) rfl (o_val (v := (.int .i64 0)) hF68 rfl rfl rfl rfl (rn_move rfl) ?_)
    intro a69 hF70; clear hF68
    refine wpList_nil ?_
    refine hK62 _ _ ?_
    clear hK62
    refine wp_block ?_
    have b71 : Blk w31 g2 24 [(.int .i64 n), (.slice A l.length c)] := (b4.ext hx32)
    refine wp_loop (fun a' W => ∃ (k : Nat) (Ar : Option Addr) (nr : Nat) (cr : Nat) (r1 : List Int), Sl 47 [(0, (.agg #[(.int .i64 n), (.slice A l.length c)])), (1, (.int .i64 a)), (2, (.int .i64 v)), (3, (.pointer (some ⟨g2, 0, none⟩))), (6, (.slice Ar nr cr)), (7, (.int .i64 e27)), (8, (.slice A22 m23 c24)), (18, (.bool (decide ((e27 : Int) ≠ (0 : Int))))), (21, (.int .i64 (m23 : Nat))), (22, (.int .i64 (k : Nat)))] a' ∧ (k ≤ n.toNat ∧ nr = k) ∧ r1 = leastL n t25 a v k ∧ Ext w W ∧ Blk W g2 24 [(.int .i64 n), (.slice A l.length c)] ∧ W.ownsRow w31.heap.size 3 1 (.slice Ar nr cr) nr (intVals r1) ∧ RIss (Clip (fun b => w3.heap.size ≤ b) w31) W (.slice A22 m23 c24) t25 ∧ w31.heap.size ≤ W.heap.size ∧ w31.heap.size ≤ W.heap.size) (fun a' _ => n.toNat - (intOf (a'.eval (.tmp 22))).toNat) ⟨0, none, 0, 0, [], ((((((((((hF70.nil.cons (q_get hF70 (t := 22) rfl (by first | rfl | (congr 1; omega) | (congr 1; done)))).cons (q_get hF70 (t := 21) rfl rfl)).cons (q_get hF70 (t := 18) rfl rfl)).cons (q_get hF70 (t := 8) rfl rfl)).cons (q_get hF70 (t := 7) rfl rfl)).cons (q_get hF70 (t := 6) rfl (by first | rfl | (congr 1; omega) | (congr 1; done)))).cons (q_get hF70 (t := 3) rfl rfl)).cons (q_get hF70 (t := 2) rfl rfl)).cons (q_get hF70 (t := 1) rfl rfl)).cons (q_get hF70 (t := 0) rfl rfl)), ⟨by omega, rfl⟩, rfl, (((Ext.refl w).trans hx5).trans hx32), b71, (own_nil w31 w31.heap.size 3 1), hf64, (by omega), (Nat.le_refl _)⟩ ?_
    clear hF70
    rintro a72 w73 ⟨k, Ar, nr, cr, r1, hF74, hp76, hp77, hx75, b78, r79, hf80, hf81, hf82⟩
    have hL83 := hF74
    have z84 := hx75.size
    have z85 := b78.lt
    have z86 := own_form0 r79
    refine wp_seq_k (fun K87 hK87 => ?_)
    refine wp_region_lit ?_
    refine wpl_op (i := 0) rfl (o_val (v := (.bool (decide (((k : Nat) : Int) < ((m23 : Nat) : Int))))) hF74 rfl rfl rfl rfl (rn_lss (hF74.get rfl) (hF74.get rfl)) ?_)
    intro a88 hF89; clear hF74
    refine wpList_nil ?_
    refine hK87 _ _ ?_
    clear hK87
    refine wp_seq_k (fun K90 hK90 => ?_)
    by_cases hc91 : ((k : Nat) : Int) < ((m23 : Nat) : Int)
    · skip
      refine wp_cond_true (c_true hF89 rfl (decide_eq_true hc91)) ?_
      refine wp_skip ?_
      refine hK90 _ _ ?_
      clear hK90
      refine wp_seq_k (fun K92 hK92 => ?_)
      refine wp_block ?_
      refine wp_seq_k (fun K93 hK93 => ?_)
      refine wp_region_lit ?_
      refine wpl_op (i := 0) rfl (o_val (v := (.int .i64 (k : Nat))) hF89 rfl rfl rfl rfl (rn_move (hF89.get rfl)) ?_)
      intro a94 hF95; clear hF89
      refine wpl_op (i := 1) rfl (o_val (v := (.int .i64 (k : Nat))) hF95 rfl rfl rfl rfl (rn_assign (hF95.get rfl)) ?_)
      intro a96 hF97; clear hF95
      refine wpList_nil ?_
      refine hK93 _ _ ?_
      clear hK93
      have z98 := hdt.sm (k) (0) (by omega) (by omega); simp only [T] at z98
      have z99 := hdt.sm (k) (a.toNat) (by omega) (by omega); simp only [T] at z99
      have z100 := hdt.sm (a.toNat) (0) (by omega) (by omega); simp only [T] at z100
      have z101 := hdt.sm (0) (a.toNat) (by omega) (by omega); simp only [T] at z101
      have hv3 := hv1; have hv4 := hv2; simp only [T] at hv3 hv4
      have hx103 : ∃ W, w73.drew = W ∧ Ext w73 W := ⟨_, rfl, (Ext.refl _).drew⟩
      obtain ⟨w102, e104, hx103⟩ := hx103
      have z105 := hx103.size
      refine any_start (fun W => Ext w102 W) (fun i => i == 19) 21 #[false, false, false, false, false, false, false, false, false, false, false, false, false, false, false, false, false, false, false, false, false] rfl rfl rfl ?_
      rw [e104]; clear e104
      refine any_pure (i := 0) (v := (.slice Ar nr cr)) hF97 (by decide +kernel) (by decide +kernel) rfl rfl rfl rfl (fun _ _ _ _ h => h) rfl (fun W => (rn_move (hF97.get rfl))) ?_
      intro a106 hF107; clear hF97
      refine any_pure (i := 1) (v := (.slice A22 m23 c24)) hF107 (by decide +kernel) (by decide +kernel) rfl rfl rfl rfl (fun _ _ _ _ h => h) rfl (fun W => (rn_move (hF107.get rfl))) ?_
      intro a108 hF109; clear hF107
      refine any_pure (i := 2) (v := (.int .i64 (k : Nat))) hF109 (by decide +kernel) (by decide +kernel) rfl rfl rfl rfl (fun _ _ _ _ h => h) rfl (fun W => (rn_move (hF109.get rfl))) ?_
      intro a110 hF111; clear hF109
      have d122 := (hf80.ext hx103)
      obtain ⟨b112, o113, A114, c115, hA116, hl117, hc118, hr119, z120, z121⟩ := RIss.get (i := k) d122 (by omega)
      have z123 := hdt.row k (by omega)
      refine any_pure (i := 3) (v := (.pointer (some ⟨b112, o113 + k, none⟩))) hF111 (by decide +kernel) (by decide +kernel) rfl rfl rfl rfl (fun _ _ _ _ h => h) rfl (fun W => (rn_index1 Try.underlying33 (by kernel_rfl : (Try.prog.info? 25).map (·.size) = some 1) ((hF111.get rfl).trans (by rw [hA116])) (hF111.get rfl) (by omega : (0 : Int) ≤ (k : Nat)) (by omega : ((k : Nat) : Int) < ((m23 : Nat) : Int)))) ?_
      intro a124 hF125; clear hF111
      have hS126 : Ext w102 w102 := (Ext.refl w102)
      refine anyt_val (i := 4) (v := (.slice A114 ((t25.getD k []).length) c115)) [5, 6, 7, 17, 18, 19] hF125 (fun j hj => by simp at hj; subst hj; decide) (by decide +kernel) (by decide +kernel) rfl rfl rfl rfl (fun _ _ _ _ h => h) rfl hS126 (fun W hW => (rn_load (isAgg_no Try.underlying25 rfl) (hF125.get rfl) (Ext.keep ((Ext.refl w102).trans hW) hc118))) ?_
      intro a127 hF128; clear hF125
      obtain ⟨b129, o130, hA131, -⟩ := Fl.at hr119 (by omega)
      refine any_pure (i := 5) (v := (.pointer (some ⟨b129, o130 + 0, none⟩))) hF128 (by decide +kernel) (by decide +kernel) rfl rfl rfl rfl (fun _ _ _ _ h => h) rfl (fun W => (rn_index1 Try.underlying25 (by kernel_rfl : (Try.prog.info? 3).map (·.size) = some 1) ((hF128.get rfl).trans (by rw [hA131])) rfl (by omega : (0 : Int) ≤ 0) (by omega : (0 : Int) < (((t25.getD k []).length : Nat) : Int)))) ?_
      intro a132 hF133; clear hF128
      refine anyt_val (i := 6) (v := (.int .i64 ((t25.getD k []).getD 0 0))) [7, 17, 18, 19] hF133 (fun j hj => by simp at hj; subst hj; decide) (by decide +kernel) (by decide +kernel) rfl rfl rfl rfl (fun _ _ _ _ h => h) rfl hS126 (fun W hW => (rn_load (isAgg_no Try.underlying3 rfl) (hF133.get rfl) (Fl.cellAt (hr119.ext hW) hA131 (intVals_at (i := 0) (by omega))))) ?_
      intro a134 hF135; clear hF133
      refine any_pure (i := 7) (v := (.int .i64 (-(((t25.getD k []).getD 0 0) : Int)))) hF135 (by decide +kernel) (by decide +kernel) rfl rfl rfl rfl (fun _ _ _ _ h => h) rfl (fun W => (rn_neg (hF135.get rfl) (by omega) rfl)) ?_
      intro a136 hF137; clear hF135
      refine any_pure (i := 8) (v := (.int .i64 v)) hF137 (by decide +kernel) (by decide +kernel) rfl rfl rfl rfl (fun _ _ _ _ h => h) rfl (fun W => (rn_move (hF137.get rfl))) ?_
      intro a138 hF139; clear hF137
      refine any_pure (i := 9) (v := (.slice A22 m23 c24)) hF139 (by decide +kernel) (by decide +kernel) rfl rfl rfl rfl (fun _ _ _ _ h => h) rfl (fun W => (rn_move (hF139.get rfl))) ?_
      intro a140 hF141; clear hF139
      refine any_pure (i := 10) (v := (.int .i64 (k : Nat))) hF141 (by decide +kernel) (by decide +kernel) rfl rfl rfl rfl (fun _ _ _ _ h => h) rfl (fun W => (rn_move (hF141.get rfl))) ?_
      intro a142 hF143; clear hF141
      refine any_pure (i := 11) (v := (.pointer (some ⟨b112, o113 + k, none⟩))) hF143 (by decide +kernel) (by decide +kernel) rfl rfl rfl rfl (fun _ _ _ _ h => h) rfl (fun W => (rn_index1 Try.underlying33 (by kernel_rfl : (Try.prog.info? 25).map (·.size) = some 1) ((hF143.get rfl).trans (by rw [hA116])) (hF143.get rfl) (by omega : (0 : Int) ≤ (k : Nat)) (by omega : ((k : Nat) : Int) < ((m23 : Nat) : Int)))) ?_
      intro a144 hF145; clear hF143
      refine anyt_val (i := 12) (v := (.slice A114 ((t25.getD k []).length) c115)) [14, 15, 16, 17, 18, 19] hF145 (fun j hj => by simp at hj; subst hj; decide) (by decide +kernel) (by decide +kernel) rfl rfl rfl rfl (fun _ _ _ _ h => h) rfl hS126 (fun W hW => (rn_load (isAgg_no Try.underlying25 rfl) (hF145.get rfl) (Ext.keep ((Ext.refl w102).trans hW) hc118))) ?_
      intro a146 hF147; clear hF145
      refine any_pure (i := 13) (v := (.int .i64 a)) hF147 (by decide +kernel) (by decide +kernel) rfl rfl rfl rfl (fun _ _ _ _ h => h) rfl (fun W => (rn_move (hF147.get rfl))) ?_
      intro a148 hF149; clear hF147
      refine any_pure (i := 14) (v := (.pointer (some ⟨b129, o130 + (a : Int).toNat, none⟩))) hF149 (by decide +kernel) (by decide +kernel) rfl rfl rfl rfl (fun _ _ _ _ h => h) rfl (fun W => (rn_index1 Try.underlying25 (by kernel_rfl : (Try.prog.info? 3).map (·.size) = some 1) ((hF149.get rfl).trans (by rw [hA131])) (hF149.get rfl) (by omega : (0 : Int) ≤ a) (by omega : (a : Int) < (((t25.getD k []).length : Nat) : Int)))) ?_
      intro a150 hF151; clear hF149
      refine anyt_val (i := 15) (v := (.int .i64 ((t25.getD k []).getD ((a : Int).toNat) 0))) [16, 17, 18, 19] hF151 (fun j hj => by simp at hj; subst hj; decide) (by decide +kernel) (by decide +kernel) rfl rfl rfl rfl (fun _ _ _ _ h => h) rfl hS126 (fun W hW => (rn_load (isAgg_no Try.underlying3 rfl) (hF151.get rfl) (Fl.cellAt (hr119.ext hW) hA131 (intVals_at (i := (a : Int).toNat) (by omega))))) ?_
      intro a152 hF153; clear hF151
      refine any_pure (i := 16) (v := (.int .i64 (v - ((t25.getD k []).getD ((a : Int).toNat) 0)))) hF153 (by decide +kernel) (by decide +kernel) rfl rfl rfl rfl (fun _ _ _ _ h => h) rfl (fun W => (rn_sub (hF153.get rfl) (hF153.get rfl) (by omega) (by omega))) ?_
      intro a154 hF155; clear hF153
      refine any_pure (i := 17) (v := (.int .i64 (max ((-(((t25.getD k []).getD 0 0) : Int)) : Int) (v - ((t25.getD k []).getD ((a : Int).toNat) 0) : Int)))) hF155 (by decide +kernel) (by decide +kernel) rfl rfl rfl rfl (fun _ _ _ _ h => h) rfl (fun W => (rn_max2 Try.underlying3 (hF155.get rfl) (hF155.get rfl))) ?_
      intro a156 hF157; clear hF155
      refine any_one (i := 18) (by decide +kernel) rfl ?_
      refine o_new (fun g => (.slice (some ⟨g, 0, none⟩) 1 1)) [(.int .i64 (max ((-(((t25.getD k []).getD 0 0) : Int)) : Int) (v - ((t25.getD k []).getD ((a : Int).toNat) 0) : Int)))] 3 hF157 rfl rfl rfl rfl (rn_buildSlice (parts1 (hF157.get rfl)) (by kernel_rfl)) ?_
      intro g158 w159 a164 hF165 z162 z163 b160 hx161; clear hF157
      refine ⟨fun _ _ => ((Ext.refl w102).trans hx161), ?_⟩
      refine any_one (i := 19) (by decide +kernel) rfl ?_
      have r166 := (own_ext (own_ext r79 hx103) hx161)
      have hf174 := r166
      refine o_appA (zs := intVals (r1 ++ ([(max ((-(((t25.getD k []).getD 0 0) : Int)) : Int) (v - ((t25.getD k []).getD ((a : Int).toNat) 0) : Int) : Int)]))) El25 hF165 rfl rfl rfl rfl rfl (hF165.get rfl) (hF165.get rfl) hf174 (Fl.cel (Fl.blk (S := fun b => b = g158) (k := 1) (n := 1) (c := 1) (cs := intVals [(max ((-(((t25.getD k []).getD 0 0) : Int)) : Int) (v - ((t25.getD k []).getD ((a : Int).toNat) 0) : Int) : Int)]) b160 rfl (intVals_one _) (by omega) rfl)).2.2 (by omega) (by omega) (by omega) (intVals_app _ _) ?_
      intro A167 c168 w169 a175 hF176 r170 hg171 z172 z173; clear hF165; have z177 := hg171.size
      refine ⟨fun h => absurd h (by decide), ?_⟩
      refine any_pure (i := 20) (v := (.slice A167 (nr + 1) c168)) hF176 (by decide +kernel) (by decide +kernel) rfl rfl rfl rfl (fun _ _ _ _ h => h) rfl (fun W => (rn_assign (hF176.get rfl))) ?_
      intro a178 hF179; clear hF176
      refine any_nil (by decide +kernel) ?_
      refine hK92 _ _ ?_
      clear hK92
      have hF180 := ((((((((((((hF179.nil.cons (hF179.get (t := 9) (v := (.int .i64 (k : Nat))) rfl)).cons (hF179.get (t := 23) (v := (.bool (decide (((k : Nat) : Int) < ((m23 : Nat) : Int))))) rfl)).cons (hF179.get (t := 22) (v := (.int .i64 (k : Nat))) rfl)).cons (hF179.get (t := 21) (v := (.int .i64 (m23 : Nat))) rfl)).cons (hF179.get (t := 18) (v := (.bool (decide ((e27 : Int) ≠ (0 : Int))))) rfl)).cons (hF179.get (t := 8) (v := (.slice A22 m23 c24)) rfl)).cons (hF179.get (t := 7) (v := (.int .i64 e27)) rfl)).cons (hF179.get (t := 6) (v := (.slice A167 (nr + 1) c168)) rfl)).cons (hF179.get (t := 3) (v := (.pointer (some ⟨g2, 0, none⟩))) rfl)).cons (hF179.get (t := 2) (v := (.int .i64 v)) rfl)).cons (hF179.get (t := 1) (v := (.int .i64 a)) rfl)).cons (hF179.get (t := 0) (v := (.agg #[(.int .i64 n), (.slice A l.length c)])) rfl))
      clear hF179
      refine wp_region_lit ?_
      refine wpl_op (i := 0) rfl (o_val (v := (.int .i64 (k + 1 : Nat))) hF180 rfl rfl rfl rfl (rn_addN (a := k) (b := 1) (hF180.get rfl) rfl (by omega)) ?_)
      intro a181 hF182; clear hF180
      refine wpl_op (i := 1) rfl (o_val (v := (.int .i64 (k + 1 : Nat))) hF182 rfl rfl rfl rfl (rn_move (hF182.get rfl)) ?_)
      intro a183 hF184; clear hF182
      refine wpList_nil ?_
      have d185 := (hf80.pres (Pres.row (((Pres.refl w73).ext hx103).ext hx161) hg171 hf174 (fun b hb h => by simp only [Clip] at h; omega)))
      have b186 : Blk w169 g2 24 [(.int .i64 n), (.slice A l.length c)] := (grown_blk hf174 hg171 ((b78.ext hx103).ext hx161) (by decide))
      refine ⟨⟨(k + 1), A167, nr + 1, c168, r1 ++ ([(max ((-(((t25.getD k []).getD 0 0) : Int)) : Int) (v - ((t25.getD k []).getD ((a : Int).toNat) 0) : Int) : Int)]), ((((((((((hF184.nil.cons (q_get hF184 (t := 22) rfl (by first | rfl | (congr 1; omega) | (congr 1; done)))).cons (q_get hF184 (t := 21) rfl rfl)).cons (q_get hF184 (t := 18) rfl rfl)).cons (q_get hF184 (t := 8) rfl rfl)).cons (q_get hF184 (t := 7) rfl rfl)).cons (q_get hF184 (t := 6) rfl (by first | rfl | (congr 1; omega) | (congr 1; done)))).cons (q_get hF184 (t := 3) rfl rfl)).cons (q_get hF184 (t := 2) rfl rfl)).cons (q_get hF184 (t := 1) rfl rfl)).cons (q_get hF184 (t := 0) rfl rfl)), ⟨by omega, by omega⟩, (by rw [hp77]; exact leastL_step _ _ _ _ _), (ext_row ((((Ext.refl w).trans hx75).trans hx103).trans hx161) hg171 hf174 (by omega)), b186, r170, d185, (by omega), (by omega)⟩, ?_⟩
      rw [hF184.get (t := 22) rfl, hL83.get (t := 22) rfl]; simp [intOf] <;> omega
    · skip
      refine wp_cond_false (c_false hF89 rfl (decide_eq_false hc91)) ?_
      refine wp_exit ?_
      refine exit_then ?_
      refine exit_then ?_
      refine exit_here ?_
      refine hK61 _ _ ?_
      clear hK61
      refine wp_seq_k (fun K187 hK187 => ?_)
      refine wp_region_lit ?_
      refine wpl_op (i := 0) rfl (o_val (v := (.slice Ar nr cr)) hF89 rfl rfl rfl rfl (rn_move (hF89.get rfl)) ?_)
      intro a188 hF189; clear hF89
      refine wpl_op (i := 1) rfl (o_val (v := (.slice Ar nr cr)) hF189 rfl rfl rfl rfl (rn_assign (hF189.get rfl)) ?_)
      intro a190 hF191; clear hF189
      refine wpl_op (i := 2) rfl (o_val (v := (.int .i64 0)) hF191 rfl rfl rfl rfl (rn_assign rfl) ?_)
      intro a192 hF193; clear hF191
      refine wpList_nil ?_
      refine hK187 _ _ ?_
      clear hK187
      refine wp_ret ?_
      refine ret2 hF193 rfl rfl rfl ?_
      have hk : k = n.toNat := by omega
      have hf194 := (Fl.own (S := fun b => w.heap.size ≤ b) r79 (fun b hb => by omega) (intVals_one _))
      have he0 : e27 = 0 := by omega
      exact ⟨_, _, _, r1, _, rfl, hf194, ⟨t25, er26, hsp28, by rw [← he0]; exact he29, by rw [if_pos rfl, hp77, hk]⟩, ((Ext.refl w).trans hx75)⟩

theorem bleast_at {v : Value} {m : Nat} (n : Int) (l : List E3) (a val : Int) (w : World) (hf : Fl S w 3 v m (edVals l)) (hfew : vOk n l = true → n ≤ 8 ∧ l.length ≤ 31) :
    Calls Try.prog 23 #[.agg #[.int .i64 n, v], .int .i64 a, .int .i64 val] w (fun e w' => ∃ A m c r e2, e = .returned (.tuple #[.slice A m c, .int .i64 e2]) ∧ Fl (fun b => w.heap.size ≤ b) w' 1 (.slice A m c) m (intVals r) ∧ SolP leastL n l a val r e2 ∧ Ext w w') := by
  have hm := Fl.edlen hf
  subst hm
  obtain ⟨A, c, rfl, _⟩ := hf.form
  exact bleast_any A c n l a val w hf hfew

end Go.Proofs.Ytjmdodgmoehfkaa
