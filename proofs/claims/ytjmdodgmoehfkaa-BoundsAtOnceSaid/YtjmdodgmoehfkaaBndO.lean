/- Contracts of the reference's Greatest and Least. -/
import Derived.Test.YtjmdodgmoehfkaaProg
import Derived.Test.YtjmdodgmoehfkaaBndN
import Derived.Test.YtjmdodgmoehfkaaSeq4
import Derived.KernelRfl
namespace Go.Proofs.Ytjmdodgmoehfkaa
open Go.RowKit

variable {S S' : Nat → Prop}

set_option maxRecDepth 100000 in
set_option maxHeartbeats 1000000 in
theorem rgreat_any (A : Option Addr) (c : Nat) (n : Int) (l : List E3) (a v : Int) (w : World) (hf : Fl S w 3 (.slice A l.length c) l.length (edVals l)) (hfew : vOk n l = true → n ≤ 8 ∧ l.length ≤ 31) :
    Calls Try.prog 22 #[.agg #[.int .i64 n, .slice A l.length c], .int .i64 a, .int .i64 v] w (fun e w' => ∃ A m c r e2, e = .returned (.tuple #[.slice A m c, .int .i64 e2]) ∧ Fl (fun b => w.heap.size ≤ b) w' 1 (.slice A m c) m (intVals r) ∧ SolP greatL n l a v r e2 ∧ Ext w w') := by
  have hc : Fl (Clip S w) w 3 (.slice A l.length c) l.length (edVals l) := hf.clip
  have hcc := (Fl.cel hc).2.1
  refine calls_enter (l := [(.agg #[(.int .i64 n), (.slice A l.length c)]), (.int .i64 a), (.int .i64 v)]) Try.func22 rfl rfl rfl (fun aA hF => ?_)
  refine wp_seq_k (fun K1 hK1 => ?_)
  refine wp_region_lit ?_
  refine wpl_op (i := 0) rfl (o_new (fun g => (.pointer (some ⟨g, 0, none⟩))) [(.int .i64 n), (.slice A l.length c)] 24 hF rfl rfl rfl rfl (rn_box (hF.get rfl) (by kernel_rfl)) ?_)
  intro g2 w3 a8 hF9 z6 z7 b4 hx5; clear hF
  refine wpl_op (i := 1) rfl (o_val (v := (.slice none 0 0)) hF9 rfl rfl rfl rfl (rn_assign rfl) ?_)
  intro a10 hF11; clear hF9
  refine wpl_op (i := 2) rfl (o_val (v := (.int .i64 0)) hF11 rfl rfl rfl rfl (rn_assign rfl) ?_)
  intro a12 hF13; clear hF11
  refine wpList_nil ?_
  refine hK1 _ _ ?_
  clear hK1
  refine wp_seq_k (fun K14 hK14 => ?_)
  refine wp_region_lit ?_
  refine wpl_op (i := 0) rfl (o_val (v := (.agg #[(.int .i64 n), (.slice A l.length c)])) hF13 rfl rfl rfl rfl (rn_loadBlk (hF13.get rfl) b4 Try.underlying24 rfl (by kernel_rfl : (Try.prog.info? 24).map (·.size) = some 2)) ?_)
  intro a15 hF16; clear hF13
  refine wpl_op (i := 1) rfl (o_val (v := (.int .i64 a)) hF16 rfl rfl rfl rfl (rn_move (hF16.get rfl)) ?_)
  intro a17 hF18; clear hF16
  refine wpl_op (i := 2) rfl (o_val (v := (.int .i64 v)) hF18 rfl rfl rfl rfl (rn_move (hF18.get rfl)) ?_)
  intro a19 hF20; clear hF18
  have d21 := (hc.ext hx5)
  refine wpl_op (i := 3) rfl (o_call hF20 rfl rfl rfl rfl (rn_call (args3 (hF20.get rfl) (hF20.get rfl) (hF20.get rfl)) rfl (by kernel_rfl)) (args_at (v := (.slice A l.length c)) n l a v _ d21 hfew) ?_)
  rintro _ w31 ⟨A22, m23, c24, t25, er26, e27, rfl, hsp28, he29, htab30, hx32⟩
  refine ⟨_, rfl, ?_⟩; intro a33 hF34; clear hF20; have z35 := hx32.size
  refine wpl_op (i := 4) rfl (o_val (v := (.tuple #[(.slice A22 m23 c24), (.int .i64 e27)])) hF34 rfl rfl rfl rfl (rn_move (hF34.get rfl)) ?_)
  intro a36 hF37; clear hF34
  refine wpl_op (i := 5) rfl (o_val (v := (.slice A22 m23 c24)) hF37 rfl rfl rfl rfl (rn_extract (hF37.get rfl) rfl) ?_)
  intro a38 hF39; clear hF37
  refine wpl_op (i := 6) rfl (o_val (v := (.int .i64 e27)) hF39 rfl rfl rfl rfl (rn_extract (hF39.get rfl) rfl) ?_)
  intro a40 hF41; clear hF39
  refine wpl_op (i := 7) rfl (o_val (v := (.slice A22 m23 c24)) hF41 rfl rfl rfl rfl (rn_assign (hF41.get rfl)) ?_)
  intro a42 hF43; clear hF41
  refine wpl_op (i := 8) rfl (o_val (v := (.int .i64 e27)) hF43 rfl rfl rfl rfl (rn_assign (hF43.get rfl)) ?_)
  intro a44 hF45; clear hF43
  refine wpList_nil ?_
  refine hK14 _ _ ?_
  clear hK14
  have hF46 := ((((((((hF45.nil.cons (hF45.get (t := 9) (v := (.int .i64 e27)) rfl)).cons (hF45.get (t := 8) (v := (.slice A22 m23 c24)) rfl)).cons (hF45.get (t := 7) (v := (.int .i64 0)) rfl)).cons (hF45.get (t := 6) (v := (.slice none 0 0)) rfl)).cons (hF45.get (t := 3) (v := (.pointer (some ⟨g2, 0, none⟩))) rfl)).cons (hF45.get (t := 2) (v := (.int .i64 v)) rfl)).cons (hF45.get (t := 1) (v := (.int .i64 a)) rfl)).cons (hF45.get (t := 0) (v := (.agg #[(.int .i64 n), (.slice A l.length c)])) rfl))
  clear hF45
  refine wp_seq_k (fun K47 hK47 => ?_)
  refine wp_seq_k (fun K48 hK48 => ?_)
  refine wp_region_lit ?_
  refine wpl_op (i := 0) rfl (o_val (v := (.int .i64 e27)) hF46 rfl rfl rfl rfl (rn_move (hF46.get rfl)) ?_)
  intro a49 hF50; clear hF46
  refine wpl_op (i := 1) rfl (o_val (v := (.bool (decide ((e27 : Int) ≠ (0 : Int))))) hF50 rfl rfl rfl rfl (rn_neq (hF50.get rfl) rfl) ?_)
  intro a51 hF52; clear hF50
  refine wpList_nil ?_
  refine hK48 _ _ ?_
  clear hK48
  by_cases hc53 : (e27 : Int) ≠ (0 : Int)
  · skip
    refine wp_cond_true (c_true hF52 rfl (decide_eq_true hc53)) ?_
    refine wp_seq_k (fun K54 hK54 => ?_)
    refine wp_region_lit ?_
    refine wpl_op (i := 0) rfl (o_val (v := (.int .i64 e27)) hF52 rfl rfl rfl rfl (rn_move (hF52.get rfl)) ?_)
    intro a55 hF56; clear hF52
    refine wpl_op (i := 1) rfl (o_val (v := (.slice none 0 0)) hF56 rfl rfl rfl rfl (rn_assign rfl) ?_)
    intro a57 hF58; clear hF56
    refine wpl_op (i := 2) rfl (o_val (v := (.int .i64 e27)) hF58 rfl rfl rfl rfl (rn_assign (hF58.get rfl)) ?_)
    intro a59 hF60; clear hF58
    refine wpList_nil ?_
    refine hK54 _ _ ?_
    clear hK54
    refine wp_ret ?_
    refine ret_then ?_
    refine ret2 hF60 rfl rfl rfl ?_
    exact ⟨_, _, _, [], _, rfl, Fl.nil _, ⟨t25, er26, hsp28, he29, by rw [if_neg (by omega)]⟩, (((Ext.refl w).trans hx5).trans hx32)⟩
  · skip
    refine wp_cond_false (c_false hF52 rfl (decide_eq_false hc53)) ?_
    refine wp_skip ?_
    refine hK47 _ _ ?_
    clear hK47
    refine wp_seq_k (fun K61 hK61 => ?_)
    obtain ⟨her, hso⟩ := solR_0 he29 (by omega)
    obtain ⟨hvo, hng, hdt⟩ := hsp28.zero her
    have hn1 := vOk_n hvo
    obtain ⟨hat, hall, hv1, hv2⟩ := solve_get hso
    have htl := hdt.len
    have hf62 := htab30 (by omega)
    have hf63 : RIss (Clip (fun b => w3.heap.size ≤ b) w31) w31 (.slice A22 m23 c24) t25 := hf62.clip
    have htm := RIss.len hf62
    refine wp_region_lit ?_
    refine wpl_op (i := 0) rfl (o_new (fun g => (.slice (some ⟨g, 0, none⟩) 0 0)) [] 3 hF52 rfl rfl rfl rfl (rn_buildSlice (parts0 ) (by kernel_rfl)) ?_)
    intro g64 w65 a70 hF71 z68 z69 b66 hx67; clear hF52
    refine wpl_op (i := 1) rfl (o_val (v := (.slice (some ⟨g64, 0, none⟩) 0 0)) hF71 rfl rfl rfl rfl (rn_assign (hF71.get rfl)) ?_)
    intro a72 hF73; clear hF71
    refine wpList_nil ?_
    refine hK61 _ _ ?_
    clear hK61
    refine wp_seq_k (fun K74 hK74 => ?_)
    refine wp_seq_k (fun K75 hK75 => ?_)
    refine wp_region_lit ?_
    refine wpl_op (i := 0) rfl (o_val (v := (.int .i64 0)) hF73 rfl rfl rfl rfl (rn_assign rfl) ?_)
    intro a76 hF77; clear hF73
    refine wpList_nil ?_
    refine hK75 _ _ ?_
    clear hK75
    refine wp_block ?_
    have d78 := (hf63.ext hx67)
    have b79 : Blk w65 g2 24 [(.int .i64 n), (.slice A l.length c)] := ((b4.ext hx32).ext hx67)
    refine wp_loop (fun a' W => ∃ (k : Nat) (Ar : Option Addr) (nr : Nat) (cr : Nat) (r1 : List Int), Sl 49 [(0, (.agg #[(.int .i64 n), (.slice A l.length c)])), (1, (.int .i64 a)), (2, (.int .i64 v)), (3, (.pointer (some ⟨g2, 0, none⟩))), (6, (.slice none 0 0)), (7, (.int .i64 0)), (8, (.slice A22 m23 c24)), (9, (.int .i64 e27)), (20, (.bool (decide ((e27 : Int) ≠ (0 : Int))))), (10, (.slice Ar nr cr)), (11, (.int .i64 (k : Nat)))] a' ∧ (k ≤ n.toNat ∧ nr = k) ∧ r1 = greatL n t25 a v k ∧ Ext w W ∧ Blk W g2 24 [(.int .i64 n), (.slice A l.length c)] ∧ W.ownsRow g64 3 1 (.slice Ar nr cr) nr (intVals r1) ∧ RIss (Clip (fun b => w3.heap.size ≤ b) w31) W (.slice A22 m23 c24) t25 ∧ g64 ≤ W.heap.size ∧ w65.heap.size ≤ W.heap.size) (fun a' _ => n.toNat - (intOf (a'.eval (.tmp 11))).toNat) ⟨0, (some ⟨g64, 0, none⟩), 0, 0, [], (((((((((((hF77.nil.cons (q_get hF77 (t := 11) rfl (by first | rfl | (congr 1; omega) | (congr 1; done)))).cons (q_get hF77 (t := 10) rfl (by first | rfl | (congr 1; omega) | (congr 1; done)))).cons (q_get hF77 (t := 20) rfl rfl)).cons (q_get hF77 (t := 9) rfl rfl)).cons (q_get hF77 (t := 8) rfl rfl)).cons (q_get hF77 (t := 7) rfl rfl)).cons (q_get hF77 (t := 6) rfl rfl)).cons (q_get hF77 (t := 3) rfl rfl)).cons (q_get hF77 (t := 2) rfl rfl)).cons (q_get hF77 (t := 1) rfl rfl)).cons (q_get hF77 (t := 0) rfl rfl)), ⟨by omega, rfl⟩, rfl, ((((Ext.refl w).trans hx5).trans hx32).trans hx67), b79, (own_blk0 (k := 1) b66), d78, (by omega), (Nat.le_refl _)⟩ ?_
    clear hF77
    rintro a80 w81 ⟨k, Ar, nr, cr, r1, hF82, hp84, hp85, hx83, b86, r87, hf88, hf89, hf90⟩
    have hL91 := hF82
    have z92 := hx83.size
    have z93 := b86.lt
    have z94 := own_form0 r87
    refine wp_seq_k (fun K95 hK95 => ?_)
    refine wp_seq_k (fun K96 hK96 => ?_)
    refine wp_region_lit ?_
    refine wpl_op (i := 0) rfl (o_val (v := (.int .i64 (k : Nat))) hF82 rfl rfl rfl rfl (rn_move (hF82.get rfl)) ?_)
    intro a97 hF98; clear hF82
    refine wpl_op (i := 1) rfl (o_val (v := (.pointer (some ⟨g2, 0, none⟩))) hF98 rfl rfl rfl rfl (rn_field Try.underlying24 rfl (by kernel_rfl) (hF98.get rfl) rfl) ?_)
    intro a99 hF100; clear hF98
    refine wpl_op (i := 2) rfl (o_val (v := (.int .i64 n)) hF100 rfl rfl rfl rfl (rn_load (isAgg_no Try.underlying3 rfl) (hF100.get rfl) (b86.rule.1 0)) ?_)
    intro a101 hF102; clear hF100
    refine wpl_op (i := 3) rfl (o_val (v := (.bool (decide (((k : Nat) : Int) < (n : Int))))) hF102 rfl rfl rfl rfl (rn_lss (hF102.get rfl) (hF102.get rfl)) ?_)
    intro a103 hF104; clear hF102
    refine wpList_nil ?_
    refine hK96 _ _ ?_
    clear hK96
    by_cases hc105 : ((k : Nat) : Int) < (n : Int)
    · skip
      refine wp_cond_true (c_true hF104 rfl (decide_eq_true hc105)) ?_
      refine wp_skip ?_
      refine hK95 _ _ ?_
      clear hK95
      refine wp_seq_k (fun K106 hK106 => ?_)
      refine wp_block ?_
      have z107 := hdt.sm (0) (k) (by omega) (by omega); simp only [T] at z107
      have z108 := hdt.sm (a.toNat) (k) (by omega) (by omega); simp only [T] at z108
      have z109 := hdt.sm (a.toNat) (0) (by omega) (by omega); simp only [T] at z109
      have z110 := hdt.sm (0) (a.toNat) (by omega) (by omega); simp only [T] at z110
      have hv3 := hv1; have hv4 := hv2; simp only [T] at hv3 hv4
      have hx112 : ∃ W, w81.drew = W ∧ Ext w81 W := ⟨_, rfl, (Ext.refl _).drew⟩
      obtain ⟨w111, e113, hx112⟩ := hx112
      have z114 := hx112.size
      refine any_start (fun W => Ext w111 W) (fun i => i == 18) 20 #[false, false, false, false, false, false, false, false, false, false, false, false, false, false, false, false, false, false, false, false] rfl rfl rfl ?_
      rw [e113]; clear e113
      refine any_pure (i := 0) (v := (.slice Ar nr cr)) hF104 (by decide +kernel) (by decide +kernel) rfl rfl rfl rfl (fun _ _ _ _ h => h) rfl (fun W => (rn_move (hF104.get rfl))) ?_
      intro a115 hF116; clear hF104
      refine any_pure (i := 1) (v := (.slice A22 m23 c24)) hF116 (by decide +kernel) (by decide +kernel) rfl rfl rfl rfl (fun _ _ _ _ h => h) rfl (fun W => (rn_move (hF116.get rfl))) ?_
      intro a117 hF118; clear hF116
      have d129 := (hf88.ext hx112)
      obtain ⟨b119, o120, A121, c122, hA123, hl124, hc125, hr126, z127, z128⟩ := RIss.get (i := 0) d129 (by omega)
      have z130 := hdt.row 0 (by omega)
      refine any_pure (i := 2) (v := (.pointer (some ⟨b119, o120 + 0, none⟩))) hF118 (by decide +kernel) (by decide +kernel) rfl rfl rfl rfl (fun _ _ _ _ h => h) rfl (fun W => (rn_index1 Try.underlying33 (by kernel_rfl : (Try.prog.info? 25).map (·.size) = some 1) ((hF118.get rfl).trans (by rw [hA123])) rfl (by omega : (0 : Int) ≤ 0) (by omega : (0 : Int) < ((m23 : Nat) : Int)))) ?_
      intro a131 hF132; clear hF118
      have hS133 : Ext w111 w111 := (Ext.refl w111)
      refine anyt_val (i := 3) (v := (.slice A121 ((t25.getD 0 []).length) c122)) [5, 6, 16, 17, 18] hF132 (fun j hj => by simp at hj; subst hj; decide) (by decide +kernel) (by decide +kernel) rfl rfl rfl rfl (fun _ _ _ _ h => h) rfl hS133 (fun W hW => (rn_load (isAgg_no Try.underlying25 rfl) (hF132.get rfl) (Ext.keep ((Ext.refl w111).trans hW) hc125))) ?_
      intro a134 hF135; clear hF132
      refine any_pure (i := 4) (v := (.int .i64 (k : Nat))) hF135 (by decide +kernel) (by decide +kernel) rfl rfl rfl rfl (fun _ _ _ _ h => h) rfl (fun W => (rn_move (hF135.get rfl))) ?_
      intro a136 hF137; clear hF135
      obtain ⟨b138, o139, hA140, -⟩ := Fl.at hr126 (by omega)
      refine any_pure (i := 5) (v := (.pointer (some ⟨b138, o139 + k, none⟩))) hF137 (by decide +kernel) (by decide +kernel) rfl rfl rfl rfl (fun _ _ _ _ h => h) rfl (fun W => (rn_index1 Try.underlying25 (by kernel_rfl : (Try.prog.info? 3).map (·.size) = some 1) ((hF137.get rfl).trans (by rw [hA140])) (hF137.get rfl) (by omega : (0 : Int) ≤ (k : Nat)) (by omega : ((k : Nat) : Int) < (((t25.getD 0 []).length : Nat) : Int)))) ?_
      intro a141 hF142; clear hF137
      refine anyt_val (i := 6) (v := (.int .i64 ((t25.getD 0 []).getD k 0))) [16, 17, 18] hF142 (fun j hj => by simp at hj; subst hj; decide) (by decide +kernel) (by decide +kernel) rfl rfl rfl rfl (fun _ _ _ _ h => h) rfl hS133 (fun W hW => (rn_load (isAgg_no Try.underlying3 rfl) (hF142.get rfl) (Fl.cellAt (hr126.ext hW) hA140 (intVals_at (i := k) (by omega))))) ?_
      intro a143 hF144; clear hF142
      refine any_pure (i := 7) (v := (.int .i64 v)) hF144 (by decide +kernel) (by decide +kernel) rfl rfl rfl rfl (fun _ _ _ _ h => h) rfl (fun W => (rn_move (hF144.get rfl))) ?_
      intro a145 hF146; clear hF144
      refine any_pure (i := 8) (v := (.slice A22 m23 c24)) hF146 (by decide +kernel) (by decide +kernel) rfl rfl rfl rfl (fun _ _ _ _ h => h) rfl (fun W => (rn_move (hF146.get rfl))) ?_
      intro a147 hF148; clear hF146
      refine any_pure (i := 9) (v := (.int .i64 a)) hF148 (by decide +kernel) (by decide +kernel) rfl rfl rfl rfl (fun _ _ _ _ h => h) rfl (fun W => (rn_move (hF148.get rfl))) ?_
      intro a149 hF150; clear hF148
      obtain ⟨b151, o152, A153, c154, hA155, hl156, hc157, hr158, z159, z160⟩ := RIss.get (i := (a : Int).toNat) d129 (by omega)
      have z161 := hdt.row ((a : Int).toNat) (by omega)
      refine any_pure (i := 10) (v := (.pointer (some ⟨b151, o152 + (a : Int).toNat, none⟩))) hF150 (by decide +kernel) (by decide +kernel) rfl rfl rfl rfl (fun _ _ _ _ h => h) rfl (fun W => (rn_index1 Try.underlying33 (by kernel_rfl : (Try.prog.info? 25).map (·.size) = some 1) ((hF150.get rfl).trans (by rw [hA155])) (hF150.get rfl) (by omega : (0 : Int) ≤ a) (by omega : (a : Int) < ((m23 : Nat) : Int)))) ?_
      intro a162 hF163; clear hF150
      refine anyt_val (i := 11) (v := (.slice A153 ((t25.getD ((a : Int).toNat) []).length) c154)) [13, 14, 15, 16, 17, 18] hF163 (fun j hj => by simp at hj; subst hj; decide) (by decide +kernel) (by decide +kernel) rfl rfl rfl rfl (fun _ _ _ _ h => h) rfl hS133 (fun W hW => (rn_load (isAgg_no Try.underlying25 rfl) (hF163.get rfl) (Ext.keep ((Ext.refl w111).trans hW) hc157))) ?_
      intro a164 hF165; clear hF163
      refine any_pure (i := 12) (v := (.int .i64 (k : Nat))) hF165 (by decide +kernel) (by decide +kernel) rfl rfl rfl rfl (fun _ _ _ _ h => h) rfl (fun W => (rn_move (hF165.get rfl))) ?_
      intro a166 hF167; clear hF165
      obtain ⟨b168, o169, hA170, -⟩ := Fl.at hr158 (by omega)
      refine any_pure (i := 13) (v := (.pointer (some ⟨b168, o169 + k, none⟩))) hF167 (by decide +kernel) (by decide +kernel) rfl rfl rfl rfl (fun _ _ _ _ h => h) rfl (fun W => (rn_index1 Try.underlying25 (by kernel_rfl : (Try.prog.info? 3).map (·.size) = some 1) ((hF167.get rfl).trans (by rw [hA170])) (hF167.get rfl) (by omega : (0 : Int) ≤ (k : Nat)) (by omega : ((k : Nat) : Int) < (((t25.getD ((a : Int).toNat) []).length : Nat) : Int)))) ?_
      intro a171 hF172; clear hF167
      refine anyt_val (i := 14) (v := (.int .i64 ((t25.getD ((a : Int).toNat) []).getD k 0))) [15, 16, 17, 18] hF172 (fun j hj => by simp at hj; subst hj; decide) (by decide +kernel) (by decide +kernel) rfl rfl rfl rfl (fun _ _ _ _ h => h) rfl hS133 (fun W hW => (rn_load (isAgg_no Try.underlying3 rfl) (hF172.get rfl) (Fl.cellAt (hr158.ext hW) hA170 (intVals_at (i := k) (by omega))))) ?_
      intro a173 hF174; clear hF172
      refine any_pure (i := 15) (v := (.int .i64 (v + ((t25.getD ((a : Int).toNat) []).getD k 0)))) hF174 (by decide +kernel) (by decide +kernel) rfl rfl rfl rfl (fun _ _ _ _ h => h) rfl (fun W => (rn_add (hF174.get rfl) (hF174.get rfl) (by omega) (by omega))) ?_
      intro a175 hF176; clear hF174
      refine any_pure (i := 16) (v := (.int .i64 (min (((t25.getD 0 []).getD k 0) : Int) (v + ((t25.getD ((a : Int).toNat) []).getD k 0) : Int)))) hF176 (by decide +kernel) (by decide +kernel) rfl rfl rfl rfl (fun _ _ _ _ h => h) rfl (fun W => (rn_min2 Try.underlying3 (hF176.get rfl) (hF176.get rfl))) ?_
      intro a177 hF178; clear hF176
      refine any_one (i := 17) (by decide +kernel) rfl ?_
      refine o_new (fun g => (.slice (some ⟨g, 0, none⟩) 1 1)) [(.int .i64 (min (((t25.getD 0 []).getD k 0) : Int) (v + ((t25.getD ((a : Int).toNat) []).getD k 0) : Int)))] 3 hF178 rfl rfl rfl rfl (rn_buildSlice (parts1 (hF178.get rfl)) (by kernel_rfl)) ?_
      intro g179 w180 a185 hF186 z183 z184 b181 hx182; clear hF178
      refine ⟨fun _ _ => ((Ext.refl w111).trans hx182), ?_⟩
      refine any_one (i := 18) (by decide +kernel) rfl ?_
      have r187 := (own_ext (own_ext r87 hx112) hx182)
      have hf195 := r187
      refine o_appA (zs := intVals (r1 ++ ([(min (((t25.getD 0 []).getD k 0) : Int) (v + ((t25.getD ((a : Int).toNat) []).getD k 0) : Int) : Int)]))) El25 hF186 rfl rfl rfl rfl rfl (hF186.get rfl) (hF186.get rfl) hf195 (Fl.cel (Fl.blk (S := fun b => b = g179) (k := 1) (n := 1) (c := 1) (cs := intVals [(min (((t25.getD 0 []).getD k 0) : Int) (v + ((t25.getD ((a : Int).toNat) []).getD k 0) : Int) : Int)]) b181 rfl (intVals_one _) (by omega) rfl)).2.2 (by omega) (by omega) (by omega) (intVals_app _ _) ?_
      intro A188 c189 w190 a196 hF197 r191 hg192 z193 z194; clear hF186; have z198 := hg192.size
      refine ⟨fun h => absurd h (by decide), ?_⟩
      refine any_pure (i := 19) (v := (.slice A188 (nr + 1) c189)) hF197 (by decide +kernel) (by decide +kernel) rfl rfl rfl rfl (fun _ _ _ _ h => h) rfl (fun W => (rn_assign (hF197.get rfl))) ?_
      intro a199 hF200; clear hF197
      refine any_nil (by decide +kernel) ?_
      refine hK106 _ _ ?_
      clear hK106
      have hF201 := ((((((((((((hF200.nil.cons (hF200.get (t := 26) (v := (.bool (decide (((k : Nat) : Int) < (n : Int))))) rfl)).cons (hF200.get (t := 11) (v := (.int .i64 (k : Nat))) rfl)).cons (hF200.get (t := 10) (v := (.slice A188 (nr + 1) c189)) rfl)).cons (hF200.get (t := 20) (v := (.bool (decide ((e27 : Int) ≠ (0 : Int))))) rfl)).cons (hF200.get (t := 9) (v := (.int .i64 e27)) rfl)).cons (hF200.get (t := 8) (v := (.slice A22 m23 c24)) rfl)).cons (hF200.get (t := 7) (v := (.int .i64 0)) rfl)).cons (hF200.get (t := 6) (v := (.slice none 0 0)) rfl)).cons (hF200.get (t := 3) (v := (.pointer (some ⟨g2, 0, none⟩))) rfl)).cons (hF200.get (t := 2) (v := (.int .i64 v)) rfl)).cons (hF200.get (t := 1) (v := (.int .i64 a)) rfl)).cons (hF200.get (t := 0) (v := (.agg #[(.int .i64 n), (.slice A l.length c)])) rfl))
      clear hF200
      refine wp_region_lit ?_
      refine wpl_op (i := 0) rfl (o_val (v := (.int .i64 (k : Nat))) hF201 rfl rfl rfl rfl (rn_move (hF201.get rfl)) ?_)
      intro a202 hF203; clear hF201
      refine wpl_op (i := 1) rfl (o_val (v := (.int .i64 (k + 1 : Nat))) hF203 rfl rfl rfl rfl (rn_addN (a := k) (b := 1) (hF203.get rfl) rfl (by omega)) ?_)
      intro a204 hF205; clear hF203
      refine wpl_op (i := 2) rfl (o_val (v := (.int .i64 (k + 1 : Nat))) hF205 rfl rfl rfl rfl (rn_assign (hF205.get rfl)) ?_)
      intro a206 hF207; clear hF205
      refine wpList_nil ?_
      have d208 := (hf88.pres (Pres.row (((Pres.refl w81).ext hx112).ext hx182) hg192 hf195 (fun b hb h => by simp only [Clip] at h; omega)))
      have b209 : Blk w190 g2 24 [(.int .i64 n), (.slice A l.length c)] := (grown_blk hf195 hg192 ((b86.ext hx112).ext hx182) (by decide))
      refine ⟨⟨(k + 1), A188, nr + 1, c189, r1 ++ ([(min (((t25.getD 0 []).getD k 0) : Int) (v + ((t25.getD ((a : Int).toNat) []).getD k 0) : Int) : Int)]), (((((((((((hF207.nil.cons (q_get hF207 (t := 11) rfl (by first | rfl | (congr 1; omega) | (congr 1; done)))).cons (q_get hF207 (t := 10) rfl (by first | rfl | (congr 1; omega) | (congr 1; done)))).cons (q_get hF207 (t := 20) rfl rfl)).cons (q_get hF207 (t := 9) rfl rfl)).cons (q_get hF207 (t := 8) rfl rfl)).cons (q_get hF207 (t := 7) rfl rfl)).cons (q_get hF207 (t := 6) rfl rfl)).cons (q_get hF207 (t := 3) rfl rfl)).cons (q_get hF207 (t := 2) rfl rfl)).cons (q_get hF207 (t := 1) rfl rfl)).cons (q_get hF207 (t := 0) rfl rfl)), ⟨by omega, by omega⟩, (by rw [hp85]; exact greatL_step _ _ _ _ _), (ext_row ((((Ext.refl w).trans hx83).trans hx112).trans hx182) hg192 hf195 (by omega)), b209, r191, d208, (by omega), (by omega)⟩, ?_⟩
      rw [hF207.get (t := 11) rfl, hL91.get (t := 11) rfl]; simp [intOf] <;> omega
    · skip
      refine wp_cond_false (c_false hF104 rfl (decide_eq_false hc105)) ?_
      refine wp_exit ?_
      refine exit_then ?_
      refine exit_then ?_
      refine exit_here ?_
      refine hK74 _ _ ?_
      clear hK74
      refine wp_seq_k (fun K210 hK210 => ?_)
      refine wp_region_lit ?_
      refine wpl_op (i := 0) rfl (o_val (v := (.slice Ar nr cr)) hF104 rfl rfl rfl rfl (rn_move (hF104.get rfl)) ?_)
      intro a211 hF212; clear hF104
      refine wpl_op (i := 1) rfl (o_val (v := (.slice Ar nr cr)) hF212 rfl rfl rfl rfl (rn_assign (hF212.get rfl)) ?_)
      intro a213 hF214; clear hF212
      refine wpl_op (i := 2) rfl (o_val (v := (.int .i64 0)) hF214 rfl rfl rfl rfl (rn_assign rfl) ?_)
      intro a215 hF216; clear hF214
      refine wpList_nil ?_
      refine hK210 _ _ ?_
      clear hK210
      have hF217 := ((((((((((((hF216.nil.cons (hF216.get (t := 26) (v := (.bool (decide (((k : Nat) : Int) < (n : Int))))) rfl)).cons (hF216.get (t := 11) (v := (.int .i64 (k : Nat))) rfl)).cons (hF216.get (t := 10) (v := (.slice Ar nr cr)) rfl)).cons (hF216.get (t := 20) (v := (.bool (decide ((e27 : Int) ≠ (0 : Int))))) rfl)).cons (hF216.get (t := 9) (v := (.int .i64 e27)) rfl)).cons (hF216.get (t := 8) (v := (.slice A22 m23 c24)) rfl)).cons (hF216.get (t := 7) (v := (.int .i64 0)) rfl)).cons (hF216.get (t := 6) (v := (.slice Ar nr cr)) rfl)).cons (hF216.get (t := 3) (v := (.pointer (some ⟨g2, 0, none⟩))) rfl)).cons (hF216.get (t := 2) (v := (.int .i64 v)) rfl)).cons (hF216.get (t := 1) (v := (.int .i64 a)) rfl)).cons (hF216.get (t := 0) (v := (.agg #[(.int .i64 n), (.slice A l.length c)])) rfl))
      clear hF216
      refine wp_ret ?_
      refine ret2 hF217 rfl rfl rfl ?_
      have hk : k = n.toNat := by omega
      have hf218 := (Fl.own (S := fun b => w.heap.size ≤ b) r87 (fun b hb => by omega) (intVals_one _))
      have he0 : e27 = 0 := by omega
      exact ⟨_, _, _, r1, _, rfl, hf218, ⟨t25, er26, hsp28, by rw [← he0]; exact he29, by rw [if_pos rfl, hp85, hk]⟩, ((Ext.refl w).trans hx83)⟩

theorem rgreat_at {v : Value} {m : Nat} (n : Int) (l : List E3) (a val : Int) (w : World) (hf : Fl S w 3 v m (edVals l)) (hfew : vOk n l = true → n ≤ 8 ∧ l.length ≤ 31) :
    Calls Try.prog 22 #[.agg #[.int .i64 n, v], .int .i64 a, .int .i64 val] w (fun e w' => ∃ A m c r e2, e = .returned (.tuple #[.slice A m c, .int .i64 e2]) ∧ Fl (fun b => w.heap.size ≤ b) w' 1 (.slice A m c) m (intVals r) ∧ SolP greatL n l a val r e2 ∧ Ext w w') := by
  have hm := Fl.edlen hf
  subst hm
  obtain ⟨A, c, rfl, _⟩ := hf.form
  exact rgreat_any A c n l a val w hf hfew

set_option maxRecDepth 100000 in
set_option maxHeartbeats 1000000 in
theorem rleast_any (A : Option Addr) (c : Nat) (n : Int) (l : List E3) (a v : Int) (w : World) (hf : Fl S w 3 (.slice A l.length c) l.length (edVals l)) (hfew : vOk n l = true → n ≤ 8 ∧ l.length ≤ 31) :
    Calls Try.prog 24 #[.agg #[.int .i64 n, .slice A l.length c], .int .i64 a, .int .i64 v] w (fun e w' => ∃ A m c r e2, e = .returned (.tuple #[.slice A m c, .int .i64 e2]) ∧ Fl (fun b => w.heap.size ≤ b) w' 1 (.slice A m c) m (intVals r) ∧ SolP leastL n l a v r e2 ∧ Ext w w') := by
  have hc : Fl (Clip S w) w 3 (.slice A l.length c) l.length (edVals l) := hf.clip
  have hcc := (Fl.cel hc).2.1
  refine calls_enter (l := [(.agg #[(.int .i64 n), (.slice A l.length c)]), (.int .i64 a), (.int .i64 v)]) Try.func24 rfl rfl rfl (fun aA hF => ?_)
  refine wp_seq_k (fun K1 hK1 => ?_)
  refine wp_region_lit ?_
  refine wpl_op (i := 0) rfl (o_new (fun g => (.pointer (some ⟨g, 0, none⟩))) [(.int .i64 n), (.slice A l.length c)] 24 hF rfl rfl rfl rfl (rn_box (hF.get rfl) (by kernel_rfl)) ?_)
  intro g2 w3 a8 hF9 z6 z7 b4 hx5; clear hF
  refine wpl_op (i := 1) rfl (o_val (v := (.slice none 0 0)) hF9 rfl rfl rfl rfl (rn_assign rfl) ?_)
  intro a10 hF11; clear hF9
  refine wpl_op (i := 2) rfl (o_val (v := (.int .i64 0)) hF11 rfl rfl rfl rfl (rn_assign rfl) ?_)
  intro a12 hF13; clear hF11
  refine wpList_nil ?_
  refine hK1 _ _ ?_
  clear hK1
  refine wp_seq_k (fun K14 hK14 => ?_)
  refine wp_region_lit ?_
  refine wpl_op (i := 0) rfl (o_val (v := (.agg #[(.int .i64 n), (.slice A l.length c)])) hF13 rfl rfl rfl rfl (rn_loadBlk (hF13.get rfl) b4 Try.underlying24 rfl (by kernel_rfl : (Try.prog.info? 24).map (·.size) = some 2)) ?_)
  intro a15 hF16; clear hF13
  refine wpl_op (i := 1) rfl (o_val (v := (.int .i64 a)) hF16 rfl rfl rfl rfl (rn_move (hF16.get rfl)) ?_)
  intro a17 hF18; clear hF16
  refine wpl_op (i := 2) rfl (o_val (v := (.int .i64 v)) hF18 rfl rfl rfl rfl (rn_move (hF18.get rfl)) ?_)
  intro a19 hF20; clear hF18
  have d21 := (hc.ext hx5)
  refine wpl_op (i := 3) rfl (o_call hF20 rfl rfl rfl rfl (rn_call (args3 (hF20.get rfl) (hF20.get rfl) (hF20.get rfl)) rfl (by kernel_rfl)) (args_at (v := (.slice A l.length c)) n l a v _ d21 hfew) ?_)
  rintro _ w31 ⟨A22, m23, c24, t25, er26, e27, rfl, hsp28, he29, htab30, hx32⟩
  refine ⟨_, rfl, ?_⟩; intro a33 hF34; clear hF20; have z35 := hx32.size
  refine wpl_op (i := 4) rfl (o_val (v := (.tuple #[(.slice A22 m23 c24), (.int .i64 e27)])) hF34 rfl rfl rfl rfl (rn_move (hF34.get rfl)) ?_)
  intro a36 hF37; clear hF34
  refine wpl_op (i := 5) rfl (o_val (v := (.slice A22 m23 c24)) hF37 rfl rfl rfl rfl (rn_extract (hF37.get rfl) rfl) ?_)
  intro a38 hF39; clear hF37
  refine wpl_op (i := 6) rfl (o_val (v := (.int .i64 e27)) hF39 rfl rfl rfl rfl (rn_extract (hF39.get rfl) rfl) ?_)
  intro a40 hF41; clear hF39
  refine wpl_op (i := 7) rfl (o_val (v := (.slice A22 m23 c24)) hF41 rfl rfl rfl rfl (rn_assign (hF41.get rfl)) ?_)
  intro a42 hF43; clear hF41
  refine wpl_op (i := 8) rfl (o_val (v := (.int .i64 e27)) hF43 rfl rfl rfl rfl (rn_assign (hF43.get rfl)) ?_)
  intro a44 hF45; clear hF43
  refine wpList_nil ?_
  refine hK14 _ _ ?_
  clear hK14
  have hF46 := ((((((((hF45.nil.cons (hF45.get (t := 9) (v := (.int .i64 e27)) rfl)).cons (hF45.get (t := 8) (v := (.slice A22 m23 c24)) rfl)).cons (hF45.get (t := 7) (v := (.int .i64 0)) rfl)).cons (hF45.get (t := 6) (v := (.slice none 0 0)) rfl)).cons (hF45.get (t := 3) (v := (.pointer (some ⟨g2, 0, none⟩))) rfl)).cons (hF45.get (t := 2) (v := (.int .i64 v)) rfl)).cons (hF45.get (t := 1) (v := (.int .i64 a)) rfl)).cons (hF45.get (t := 0) (v := (.agg #[(.int .i64 n), (.slice A l.length c)])) rfl))
  clear hF45
  refine wp_seq_k (fun K47 hK47 => ?_)
  refine wp_seq_k (fun K48 hK48 => ?_)
  refine wp_region_lit ?_
  refine wpl_op (i := 0) rfl (o_val (v := (.int .i64 e27)) hF46 rfl rfl rfl rfl (rn_move (hF46.get rfl)) ?_)
  intro a49 hF50; clear hF46
  refine wpl_op (i := 1) rfl (o_val (v := (.bool (decide ((e27 : Int) ≠ (0 : Int))))) hF50 rfl rfl rfl rfl (rn_neq (hF50.get rfl) rfl) ?_)
  intro a51 hF52; clear hF50
  refine wpList_nil ?_
  refine hK48 _ _ ?_
  clear hK48
  by_cases hc53 : (e27 : Int) ≠ (0 : Int)
  · skip
    refine wp_cond_true (c_true hF52 rfl (decide_eq_true hc53)) ?_
    refine wp_seq_k (fun K54 hK54 => ?_)
    refine wp_region_lit ?_
    refine wpl_op (i := 0) rfl (o_val (v := (.int .i64 e27)) hF52 rfl rfl rfl rfl (rn_move (hF52.get rfl)) ?_)
    intro a55 hF56; clear hF52
    refine wpl_op (i := 1) rfl (o_val (v := (.slice none 0 0)) hF56 rfl rfl rfl rfl (rn_assign rfl) ?_)
    intro a57 hF58; clear hF56
    refine wpl_op (i := 2) rfl (o_val (v := (.int .i64 e27)) hF58 rfl rfl rfl rfl (rn_assign (hF58.get rfl)) ?_)
    intro a59 hF60; clear hF58
    refine wpList_nil ?_
    refine hK54 _ _ ?_
    clear hK54
    refine wp_ret ?_
    refine ret_then ?_
    refine ret2 hF60 rfl rfl rfl ?_
    exact ⟨_, _, _, [], _, rfl, Fl.nil _, ⟨t25, er26, hsp28, he29, by rw [if_neg (by omega)]⟩, (((Ext.refl w).trans hx5).trans hx32)⟩
  · skip
    refine wp_cond_false (c_false hF52 rfl (decide_eq_false hc53)) ?_
    refine wp_skip ?_
    refine hK47 _ _ ?_
    clear hK47
    refine wp_seq_k (fun K61 hK61 => ?_)
    obtain ⟨her, hso⟩ := solR_0 he29 (by omega)
    obtain ⟨hvo, hng, hdt⟩ := hsp28.zero her
    have hn1 := vOk_n hvo
    obtain ⟨hat, hall, hv1, hv2⟩ := solve_get hso
    have htl := hdt.len
    have hf62 := htab30 (by omega)
    have hf63 : RIss (Clip (fun b => w3.heap.size ≤ b) w31) w31 (.slice A22 m23 c24) t25 := hf62.clip
    have htm := RIss.len hf62
    refine wp_region_lit ?_
    refine wpl_op (i := 0) rfl (o_new (fun g => (.slice (some ⟨g, 0, none⟩) 0 0)) [] 3 hF52 rfl rfl rfl rfl (rn_buildSlice (parts0 ) (by kernel_rfl)) ?_)
    intro g64 w65 a70 hF71 z68 z69 b66 hx67; clear hF52
    refine wpl_op (i := 1) rfl (o_val (v := (.slice (some ⟨g64, 0, none⟩) 0 0)) hF71 rfl rfl rfl rfl (rn_assign (hF71.get rfl)) ?_)
    intro a72 hF73; clear hF71
    refine wpList_nil ?_
    refine hK61 _ _ ?_
    clear hK61
    refine wp_seq_k (fun K74 hK74 => ?_)
    refine wp_seq_k (fun K75 hK75 => ?_)
    refine wp_region_lit ?_
    refine wpl_op (i := 0) rfl (o_val (v := (.int .i64 0)) hF73 rfl rfl rfl rfl (rn_assign rfl) ?_)
    intro a76 hF77; clear hF73
    refine wpList_nil ?_
    refine hK75 _ _ ?_
    clear hK75
    refine wp_block ?_
    have d78 := (hf63.ext hx67)
    have b79 : Blk w65 g2 24 [(.int .i64 n), (.slice A l.length c)] := ((b4.ext hx32).ext hx67)
    refine wp_loop (fun a' W => ∃ (k : Nat) (Ar : Option Addr) (nr : Nat) (cr : Nat) (r1 : List Int), Sl 50 [(0, (.agg #[(.int .i64 n), (.slice A l.length c)])), (1, (.int .i64 a)), (2, (.int .i64 v)), (3, (.pointer (some ⟨g2, 0, none⟩))), (6, (.slice none 0 0)), (7, (.int .i64 0)), (8, (.slice A22 m23 c24)), (9, (.int .i64 e27)), (20, (.bool (decide ((e27 : Int) ≠ (0 : Int))))), (10, (.slice Ar nr cr)), (11, (.int .i64 (k : Nat)))] a' ∧ (k ≤ n.toNat ∧ nr = k) ∧ r1 = leastL n t25 a v k ∧ Ext w W ∧ Blk W g2 24 [(.int .i64 n), (.slice A l.length c)] ∧ W.ownsRow g64 3 1 (.slice Ar nr cr) nr (intVals r1) ∧ RIss (Clip (fun b => w3.heap.size ≤ b) w31) W (.slice A22 m23 c24) t25 ∧ g64 ≤ W.heap.size ∧ w65.heap.size ≤ W.heap.size) (fun a' _ => n.toNat - (intOf (a'.eval (.tmp 11))).toNat) ⟨0, (some ⟨g64, 0, none⟩), 0, 0, [], (((((((((((hF77.nil.cons (q_get hF77 (t := 11) rfl (by first | rfl | (congr 1; omega) | (congr 1; done)))).cons (q_get hF77 (t := 10) rfl (by first | rfl | (congr 1; omega) | (congr 1; done)))).cons (q_get hF77 (t := 20) rfl rfl)).cons (q_get hF77 (t := 9) rfl rfl)).cons (q_get hF77 (t := 8) rfl rfl)).cons (q_get hF77 (t := 7) rfl rfl)).cons (q_get hF77 (t := 6) rfl rfl)).cons (q_get hF77 (t := 3) rfl rfl)).cons (q_get hF77 (t := 2) rfl rfl)).cons (q_get hF77 (t := 1) rfl rfl)).cons (q_get hF77 (t := 0) rfl rfl)), ⟨by omega, rfl⟩, rfl, ((((Ext.refl w).trans hx5).trans hx32).trans hx67), b79, (own_blk0 (k := 1) b66), d78, (by omega), (Nat.le_refl _)⟩ ?_
    clear hF77
    rintro a80 w81 ⟨k, Ar, nr, cr, r1, hF82, hp84, hp85, hx83, b86, r87, hf88, hf89, hf90⟩
    have hL91 := hF82
    have z92 := hx83.size
    have z93 := b86.lt
    have z94 := own_form0 r87
    refine wp_seq_k (fun K95 hK95 => ?_)
    refine wp_seq_k (fun K96 hK96 => ?_)
    refine wp_region_lit ?_
    refine wpl_op (i := 0) rfl (o_val (v := (.int .i64 (k : Nat))) hF82 rfl rfl rfl rfl (rn_move (hF82.get rfl)) ?_)
    intro a97 hF98; clear hF82
    refine wpl_op (i := 1) rfl (o_val (v := (.pointer (some ⟨g2, 0, none⟩))) hF98 rfl rfl rfl rfl (rn_field Try.underlying24 rfl (by kernel_rfl) (hF98.get rfl) rfl) ?_)
    intro a99 hF100; clear hF98
    refine wpl_op (i := 2) rfl (o_val (v := (.int .i64 n)) hF100 rfl rfl rfl rfl (rn_load (isAgg_no Try.underlying3 rfl) (hF100.get rfl) (b86.rule.1 0)) ?_)
    intro a101 hF102; clear hF100
    refine wpl_op (i := 3) rfl (o_val (v := (.bool (decide (((k : Nat) : Int) < (n : Int))))) hF102 rfl rfl rfl rfl (rn_lss (hF102.get rfl) (hF102.get rfl)) ?_)
    intro a103 hF104; clear hF102
    refine wpList_nil ?_
    refine hK96 _ _ ?_
    clear hK96
    by_cases hc105 : ((k : Nat) : Int) < (n : Int)
    · skip
      refine wp_cond_true (c_true hF104 rfl (decide_eq_true hc105)) ?_
      refine wp_skip ?_
      refine hK95 _ _ ?_
      clear hK95
      refine wp_seq_k (fun K106 hK106 => ?_)
      refine wp_block ?_
      have z107 := hdt.sm (k) (0) (by omega) (by omega); simp only [T] at z107
      have z108 := hdt.sm (k) (a.toNat) (by omega) (by omega); simp only [T] at z108
      have z109 := hdt.sm (a.toNat) (0) (by omega) (by omega); simp only [T] at z109
      have z110 := hdt.sm (0) (a.toNat) (by omega) (by omega); simp only [T] at z110
      have hv3 := hv1; have hv4 := hv2; simp only [T] at hv3 hv4
      have hx112 : ∃ W, w81.drew = W ∧ Ext w81 W := ⟨_, rfl, (Ext.refl _).drew⟩
      obtain ⟨w111, e113, hx112⟩ := hx112
      have z114 := hx112.size
      refine any_start (fun W => Ext w111 W) (fun i => i == 19) 21 #[false, false, false, false, false, false, false, false, false, false, false, false, false, false, false, false, false, false, false, false, false] rfl rfl rfl ?_
      rw [e113]; clear e113
      refine any_pure (i := 0) (v := (.slice Ar nr cr)) hF104 (by decide +kernel) (by decide +kernel) rfl rfl rfl rfl (fun _ _ _ _ h => h) rfl (fun W => (rn_move (hF104.get rfl))) ?_
      intro a115 hF116; clear hF104
      refine any_pure (i := 1) (v := (.slice A22 m23 c24)) hF116 (by decide +kernel) (by decide +kernel) rfl rfl rfl rfl (fun _ _ _ _ h => h) rfl (fun W => (rn_move (hF116.get rfl))) ?_
      intro a117 hF118; clear hF116
      refine any_pure (i := 2) (v := (.int .i64 (k : Nat))) hF118 (by decide +kernel) (by decide +kernel) rfl rfl rfl rfl (fun _ _ _ _ h => h) rfl (fun W => (rn_move (hF118.get rfl))) ?_
      intro a119 hF120; clear hF118
      have d131 := (hf88.ext hx112)
      obtain ⟨b121, o122, A123, c124, hA125, hl126, hc127, hr128, z129, z130⟩ := RIss.get (i := k) d131 (by omega)
      have z132 := hdt.row k (by omega)
      refine any_pure (i := 3) (v := (.pointer (some ⟨b121, o122 + k, none⟩))) hF120 (by decide +kernel) (by decide +kernel) rfl rfl rfl rfl (fun _ _ _ _ h => h) rfl (fun W => (rn_index1 Try.underlying33 (by kernel_rfl : (Try.prog.info? 25).map (·.size) = some 1) ((hF120.get rfl).trans (by rw [hA125])) (hF120.get rfl) (by omega : (0 : Int) ≤ (k : Nat)) (by omega : ((k : Nat) : Int) < ((m23 : Nat) : Int)))) ?_
      intro a133 hF134; clear hF120
      have hS135 : Ext w111 w111 := (Ext.refl w111)
      refine anyt_val (i := 4) (v := (.slice A123 ((t25.getD k []).length) c124)) [5, 6, 7, 17, 18, 19] hF134 (fun j hj => by simp at hj; subst hj; decide) (by decide +kernel) (by decide +kernel) rfl rfl rfl rfl (fun _ _ _ _ h => h) rfl hS135 (fun W hW => (rn_load (isAgg_no Try.underlying25 rfl) (hF134.get rfl) (Ext.keep ((Ext.refl w111).trans hW) hc127))) ?_
      intro a136 hF137; clear hF134
      obtain ⟨b138, o139, hA140, -⟩ := Fl.at hr128 (by omega)
      refine any_pure (i := 5) (v := (.pointer (some ⟨b138, o139 + 0, none⟩))) hF137 (by decide +kernel) (by decide +kernel) rfl rfl rfl rfl (fun _ _ _ _ h => h) rfl (fun W => (rn_index1 Try.underlying25 (by kernel_rfl : (Try.prog.info? 3).map (·.size) = some 1) ((hF137.get rfl).trans (by rw [hA140])) rfl (by omega : (0 : Int) ≤ 0) (by omega : (0 : Int) < (((t25.getD k []).length : Nat) : Int)))) ?_
      intro a141 hF142; clear hF137
      refine anyt_val (i := 6) (v := (.int .i64 ((t25.getD k []).getD 0 0))) [7, 17, 18, 19] hF142 (fun j hj => by simp at hj; subst hj; decide) (by decide +kernel) (by decide +kernel) rfl rfl rfl rfl (fun _ _ _ _ h => h) rfl hS135 (fun W hW => (rn_load (isAgg_no Try.underlying3 rfl) (hF142.get rfl) (Fl.cellAt (hr128.ext hW) hA140 (intVals_at (i := 0) (by omega))))) ?_
      intro a143 hF144; clear hF142
      refine any_pure (i := 7) (v := (.int .i64 (-(((t25.getD k []).getD 0 0) : Int)))) hF144 (by decide +kernel) (by decide +kernel) rfl rfl rfl rfl (fun _ _ _ _ h => h) rfl (fun W => (rn_neg (hF144.get rfl) (by omega) rfl)) ?_
      intro a145 hF146; clear hF144
      refine any_pure (i := 8) (v := (.int .i64 v)) hF146 (by decide +kernel) (by decide +kernel) rfl rfl rfl rfl (fun _ _ _ _ h => h) rfl (fun W => (rn_move (hF146.get rfl))) ?_
      intro a147 hF148; clear hF146
      refine any_pure (i := 9) (v := (.slice A22 m23 c24)) hF148 (by decide +kernel) (by decide +kernel) rfl rfl rfl rfl (fun _ _ _ _ h => h) rfl (fun W => (rn_move (hF148.get rfl))) ?_
      intro a149 hF150; clear hF148
      refine any_pure (i := 10) (v := (.int .i64 (k : Nat))) hF150 (by decide +kernel) (by decide +kernel) rfl rfl rfl rfl (fun _ _ _ _ h => h) rfl (fun W => (rn_move (hF150.get rfl))) ?_
      intro a151 hF152; clear hF150
      refine any_pure (i := 11) (v := (.pointer (some ⟨b121, o122 + k, none⟩))) hF152 (by decide +kernel) (by decide +kernel) rfl rfl rfl rfl (fun _ _ _ _ h => h) rfl (fun W => (rn_index1 Try.underlying33 (by kernel_rfl : (Try.prog.info? 25).map (·.size) = some 1) ((hF152.get rfl).trans (by rw [hA125])) (hF152.get rfl) (by omega : (0 : Int) ≤ (k : Nat)) (by omega : ((k : Nat) : Int) < ((m23 : Nat) : Int)))) ?_
      intro a153 hF154; clear hF152
      refine anyt_val (i := 12) (v := (.slice A123 ((t25.getD k []).length) c124)) [14, 15, 16, 17, 18, 19] hF154 (fun j hj => by simp at hj; subst hj; decide) (by decide +kernel) (by decide +kernel) rfl rfl rfl rfl (fun _ _ _ _ h => h) rfl hS135 (fun W hW => (rn_load (isAgg_no Try.underlying25 rfl) (hF154.get rfl) (Ext.keep ((Ext.refl w111).trans hW) hc127))) ?_
      intro a155 hF156; clear hF154
      refine any_pure (i := 13) (v := (.int .i64 a)) hF156 (by decide +kernel) (by decide +kernel) rfl rfl rfl rfl (fun _ _ _ _ h => h) rfl (fun W => (rn_move (hF156.get rfl))) ?_
      intro a157 hF158; clear hF156
      refine any_pure (i := 14) (v := (.pointer (some ⟨b138, o139 + (a : Int).toNat, none⟩))) hF158 (by decide +kernel) (by decide +kernel) rfl rfl rfl rfl (fun _ _ _ _ h => h) rfl (fun W => (rn_index1 Try.underlying25 (by kernel_rfl : (Try.prog.info? 3).map (·.size) = some 1) ((hF158.get rfl).trans (by rw [hA140])) (hF158.get rfl) (by omega : (0 : Int) ≤ a) (by omega : (a : Int) < (((t25.getD k []).length : Nat) : Int)))) ?_
      intro a159 hF160; clear hF158
      refine anyt_val (i := 15) (v := (.int .i64 ((t25.getD k []).getD ((a : Int).toNat) 0))) [16, 17, 18, 19] hF160 (fun j hj => by simp at hj; subst hj; decide) (by decide +kernel) (by decide +kernel) rfl rfl rfl rfl (fun _ _ _ _ h => h) rfl hS135 (fun W hW => (rn_load (isAgg_no Try.underlying3 rfl) (hF160.get rfl) (Fl.cellAt (hr128.ext hW) hA140 (intVals_at (i := (a : Int).toNat) (by omega))))) ?_
      intro a161 hF162; clear hF160
      refine any_pure (i := 16) (v := (.int .i64 (v - ((t25.getD k []).getD ((a : Int).toNat) 0)))) hF162 (by decide +kernel) (by decide +kernel) rfl rfl rfl rfl (fun _ _ _ _ h => h) rfl (fun W => (rn_sub (hF162.get rfl) (hF162.get rfl) (by omega) (by omega))) ?_
      intro a163 hF164; clear hF162
      refine any_pure (i := 17) (v := (.int .i64 (max ((-(((t25.getD k []).getD 0 0) : Int)) : Int) (v - ((t25.getD k []).getD ((a : Int).toNat) 0) : Int)))) hF164 (by decide +kernel) (by decide +kernel) rfl rfl rfl rfl (fun _ _ _ _ h => h) rfl (fun W => (rn_max2 Try.underlying3 (hF164.get rfl) (hF164.get rfl))) ?_
      intro a165 hF166; clear hF164
      refine any_one (i := 18) (by decide +kernel) rfl ?_
      refine o_new (fun g => (.slice (some ⟨g, 0, none⟩) 1 1)) [(.int .i64 (max ((-(((t25.getD k []).getD 0 0) : Int)) : Int) (v - ((t25.getD k []).getD ((a : Int).toNat) 0) : Int)))] 3 hF166 rfl rfl rfl rfl (rn_buildSlice (parts1 (hF166.get rfl)) (by kernel_rfl)) ?_
      intro g167 w168 a173 hF174 z171 z172 b169 hx170; clear hF166
      refine ⟨fun _ _ => ((Ext.refl w111).trans hx170), ?_⟩
      refine any_one (i := 19) (by decide +kernel) rfl ?_
      have r175 := (own_ext (own_ext r87 hx112) hx170)
      have hf183 := r175
      refine o_appA (zs := intVals (r1 ++ ([(max ((-(((t25.getD k []).getD 0 0) : Int)) : Int) (v - ((t25.getD k []).getD ((a : Int).toNat) 0) : Int) : Int)]))) El25 hF174 rfl rfl rfl rfl rfl (hF174.get rfl) (hF174.get rfl) hf183 (Fl.cel (Fl.blk (S := fun b => b = g167) (k := 1) (n := 1) (c := 1) (cs := intVals [(max ((-(((t25.getD k []).getD 0 0) : Int)) : Int) (v - ((t25.getD k []).getD ((a : Int).toNat) 0) : Int) : Int)]) b169 rfl (intVals_one _) (by omega) rfl)).2.2 (by omega) (by omega) (by omega) (intVals_app _ _) ?_
      intro A176 c177 w178 a184 hF185 r179 hg180 z181 z182; clear hF174; have z186 := hg180.size
      refine ⟨fun h => absurd h (by decide), ?_⟩
      refine any_pure (i := 20) (v := (.slice A176 (nr + 1) c177)) hF185 (by decide +kernel) (by decide +kernel) rfl rfl rfl rfl (fun _ _ _ _ h => h) rfl (fun W => (rn_assign (hF185.get rfl))) ?_
      intro a187 hF188; clear hF185
      refine any_nil (by decide +kernel) ?_
      refine hK106 _ _ ?_
      clear hK106
      have hF189 := ((((((((((((hF188.nil.cons (hF188.get (t := 26) (v := (.bool (decide (((k : Nat) : Int) < (n : Int))))) rfl)).cons (hF188.get (t := 11) (v := (.int .i64 (k : Nat))) rfl)).cons (hF188.get (t := 10) (v := (.slice A176 (nr + 1) c177)) rfl)).cons (hF188.get (t := 20) (v := (.bool (decide ((e27 : Int) ≠ (0 : Int))))) rfl)).cons (hF188.get (t := 9) (v := (.int .i64 e27)) rfl)).cons (hF188.get (t := 8) (v := (.slice A22 m23 c24)) rfl)).cons (hF188.get (t := 7) (v := (.int .i64 0)) rfl)).cons (hF188.get (t := 6) (v := (.slice none 0 0)) rfl)).cons (hF188.get (t := 3) (v := (.pointer (some ⟨g2, 0, none⟩))) rfl)).cons (hF188.get (t := 2) (v := (.int .i64 v)) rfl)).cons (hF188.get (t := 1) (v := (.int .i64 a)) rfl)).cons (hF188.get (t := 0) (v := (.agg #[(.int .i64 n), (.slice A l.length c)])) rfl))
      clear hF188
      refine wp_region_lit ?_
      refine wpl_op (i := 0) rfl (o_val (v := (.int .i64 (k : Nat))) hF189 rfl rfl rfl rfl (rn_move (hF189.get rfl)) ?_)
      intro a190 hF191; clear hF189
      refine wpl_op (i := 1) rfl (o_val (v := (.int .i64 (k + 1 : Nat))) hF191 rfl rfl rfl rfl (rn_addN (a := k) (b := 1) (hF191.get rfl) rfl (by omega)) ?_)
      intro a192 hF193; clear hF191
      refine wpl_op (i := 2) rfl (o_val (v := (.int .i64 (k + 1 : Nat))) hF193 rfl rfl rfl rfl (rn_assign (hF193.get rfl)) ?_)
      intro a194 hF195; clear hF193
      refine wpList_nil ?_
      have d196 := (hf88.pres (Pres.row (((Pres.refl w81).ext hx112).ext hx170) hg180 hf183 (fun b hb h => by simp only [Clip] at h; omega)))
      have b197 : Blk w178 g2 24 [(.int .i64 n), (.slice A l.length c)] := (grown_blk hf183 hg180 ((b86.ext hx112).ext hx170) (by decide))
      refine ⟨⟨(k + 1), A176, nr + 1, c177, r1 ++ ([(max ((-(((t25.getD k []).getD 0 0) : Int)) : Int) (v - ((t25.getD k []).getD ((a : Int).toNat) 0) : Int) : Int)]), (((((((((((hF195.nil.cons (q_get hF195 (t := 11) rfl (by first | rfl | (congr 1; omega) | (congr 1; done)))).cons (q_get hF195 (t := 10) rfl (by first | rfl | (congr 1; omega) | (congr 1; done)))).cons (q_get hF195 (t := 20) rfl rfl)).cons (q_get hF195 (t := 9) rfl rfl)).cons (q_get hF195 (t := 8) rfl rfl)).cons (q_get hF195 (t := 7) rfl rfl)).cons (q_get hF195 (t := 6) rfl rfl)).cons (q_get hF195 (t := 3) rfl rfl)).cons (q_get hF195 (t := 2) rfl rfl)).cons (q_get hF195 (t := 1) rfl rfl)).cons (q_get hF195 (t := 0) rfl rfl)), ⟨by omega, by omega⟩, (by rw [hp85]; exact leastL_step _ _ _ _ _), (ext_row ((((Ext.refl w).trans hx83).trans hx112).trans hx170) hg180 hf183 (by omega)), b197, r179, d196, (by omega), (by omega)⟩, ?_⟩
      rw [hF195.get (t := 11) rfl, hL91.get (t := 11) rfl]; simp [intOf] <;> omega
    · skip
      refine wp_cond_false (c_false hF104 rfl (decide_eq_false hc105)) ?_
      refine wp_exit ?_
      refine exit_then ?_
      refine exit_then ?_
      refine exit_here ?_
      refine hK74 _ _ ?_
      clear hK74
      refine wp_seq_k (fun K198 hK198 => ?_)
      refine wp_region_lit ?_
      refine wpl_op (i := 0) rfl (o_val (v := (.slice Ar nr cr)) hF104 rfl rfl rfl rfl (rn_move (hF104.get rfl)) ?_)
      intro a199 hF200; clear hF104
      refine wpl_op (i := 1) rfl (o_val (v := (.slice Ar nr cr)) hF200 rfl rfl rfl rfl (rn_assign (hF200.get rfl)) ?_)
      intro a201 hF202; clear hF200
      refine wpl_op (i := 2) rfl (o_val (v := (.int .i64 0)) hF202 rfl rfl rfl rfl (rn_assign rfl) ?_)
      intro a203 hF204; clear hF202
      refine wpList_nil ?_
      refine hK198 _ _ ?_
      clear hK198
      have hF205 := ((((((((((((hF204.nil.cons (hF204.get (t := 26) (v := (.bool (decide (((k : Nat) : Int) < (n : Int))))) rfl)).cons (hF204.get (t := 11) (v := (.int .i64 (k : Nat))) rfl)).cons (hF204.get (t := 10) (v := (.slice Ar nr cr)) rfl)).cons (hF204.get (t := 20) (v := (.bool (decide ((e27 : Int) ≠ (0 : Int))))) rfl)).cons (hF204.get (t := 9) (v := (.int .i64 e27)) rfl)).cons (hF204.get (t := 8) (v := (.slice A22 m23 c24)) rfl)).cons (hF204.get (t := 7) (v := (.int .i64 0)) rfl)).cons (hF204.get (t := 6) (v := (.slice Ar nr cr)) rfl)).cons (hF204.get (t := 3) (v := (.pointer (some ⟨g2, 0, none⟩))) rfl)).cons (hF204.get (t := 2) (v := (.int .i64 v)) rfl)).cons (hF204.get (t := 1) (v := (.int .i64 a)) rfl)).cons (hF204.get (t := 0) (v := (.agg #[(.int .i64 n), (.slice A l.length c)])) rfl))
      clear hF204
      refine wp_ret ?_
      refine ret2 hF205 rfl rfl rfl ?_
      have hk : k = n.toNat := by omega
      have hf206 := (Fl.own (S := fun b => w.heap.size ≤ b) r87 (fun b hb => by omega) (intVals_one _))
      have he0 : e27 = 0 := by omega
      exact ⟨_, _, _, r1, _, rfl, hf206, ⟨t25, er26, hsp28, by rw [← he0]; exact he29, by rw [if_pos rfl, hp85, hk]⟩, ((Ext.refl w).trans hx83)⟩

theorem rleast_at {v : Value} {m : Nat} (n : Int) (l : List E3) (a val : Int) (w : World) (hf : Fl S w 3 v m (edVals l)) (hfew : vOk n l = true → n ≤ 8 ∧ l.length ≤ 31) :
    Calls Try.prog 24 #[.agg #[.int .i64 n, v], .int .i64 a, .int .i64 val] w (fun e w' => ∃ A m c r e2, e = .returned (.tuple #[.slice A m c, .int .i64 e2]) ∧ Fl (fun b => w.heap.size ≤ b) w' 1 (.slice A m c) m (intVals r) ∧ SolP leastL n l a val r e2 ∧ Ext w w') := by
  have hm := Fl.edlen hf
  subst hm
  obtain ⟨A, c, rfl, _⟩ := hf.form
  exact rleast_any A c n l a val w hf hfew

end Go.Proofs.Ytjmdodgmoehfkaa
