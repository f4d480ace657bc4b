/- The law DigestNext walked. -/
import Derived.Test.YtgodliookpgliaaDoorProg
import Derived.Test.YtgodliookpgliaaDoorLawB3
import Derived.Test.YtgodliookpgliaaDoorWk11
import Derived.KernelRfl
namespace Go.Proofs.YtgodliookpgliaaDoor
open Go.RowKit

variable {S S' : Nat → Prop}

theorem next_tree {l : List (List UInt8)} {n j : Nat} {d : List UInt8} (hn : n = 2 ^ j) (hl : n ≤ l.length) : treeD (l.take n ++ [d]) = nodeD (treeD (l.take n)) (treeD [d]) := by
  have h0 : 1 ≤ n := by rw [hn]; exact Nat.one_le_two_pow
  have h1 : (l.take n).length = n := by rw [List.length_take]; omega
  have h2 : (l.take n ++ [d]).length = n + 1 := by rw [List.length_append, h1]; rfl
  have h3 : half (n + 1) = n := by rw [hn]; exact half_pow_succ j
  rw [tree_two' (by rw [h2]; omega), h2, h3, List.take_append_of_le_length (by omega), List.take_of_length_le (by omega), List.drop_append_of_le_length (by omega), List.drop_eq_nil_of_le (by omega), List.nil_append]
theorem next_path {l : List (List UInt8)} {n j : Nat} {d : List UInt8} (hn : n = 2 ^ j) (hl : n ≤ l.length) : pathF (l.take n ++ [d]) (n : Int) = ([treeD (l.take n)], 0) := by
  have h0 : 1 ≤ n := by rw [hn]; exact Nat.one_le_two_pow
  have h1 : (l.take n).length = n := by rw [List.length_take]; omega
  have h2 : (l.take n ++ [d]).length = n + 1 := by rw [List.length_append, h1]; rfl
  have h3 : half (n + 1) = n := by rw [hn]; exact half_pow_succ j
  rw [pathF, if_neg (by rw [h2]; omega), Int.toNat_natCast, pathD_second' (l := l.take n ++ [d]) (a := n) (by rw [h2]; omega) (by rw [h2, h3]; omega), h2, h3, List.take_append_of_le_length (by omega), List.take_take, Nat.min_self, List.drop_append_of_le_length (by omega), List.drop_eq_nil_of_le (by omega), List.nil_append, pathD_one' (by simp)]
  rfl

set_option maxRecDepth 100000 in
set_option maxHeartbeats 1000000 in
theorem next_any (A : Option Addr) (c : Nat) (s : List UInt8) (w : World) (hf : Fl S w 1 (.slice A s.length c) s.length (byteVals s)) (hG : Glob w) (d : List UInt8) (hd : d.length = 32) :
    Calls Tryd.prog 8 #[.slice A s.length c, .agg (byteVals d).toArray] w (fun e w' => e = .returned (.bool true) ∧ Ext w w') := by
  have hc : Fl (Clip S w) w 1 (.slice A s.length c) s.length (byteVals s) := hf.clip
  have hcc := (Fl.cel hc).2.1
  refine calls_enter (l := [(.slice A s.length c), (.agg (byteVals d).toArray)]) Tryd.func8 rfl rfl rfl (fun aA hF => ?_)
  refine wp_seq_k (fun K1 hK1 => ?_)
  refine wp_region_lit ?_
  refine wpl_op (i := 0) rfl (o_new (fun g => (.pointer (some ⟨g, 0, none⟩))) (byteVals d) 26 hF rfl rfl rfl rfl (rn_box (hF.get rfl) (box_arr _)) ?_)
  intro g2 w3 a8 hF9 z6 z7 b4 hx5; clear hF
  refine wpl_op (i := 1) rfl (o_val (v := (.bool false)) hF9 rfl rfl rfl rfl (rn_assign rfl) ?_)
  intro a10 hF11; clear hF9
  refine wpList_nil ?_
  refine hK1 _ _ ?_
  clear hK1
  refine wp_seq_k (fun K12 hK12 => ?_)
  refine wp_seq_k (fun K13 hK13 => ?_)
  refine wp_region_lit ?_
  refine wpl_op (i := 0) rfl (o_call hF11 rfl rfl rfl rfl (rn_call (args0 ) rfl (by kernel_rfl)) (sane_any _ (hG.ext ((Ext.refl w).trans hx5))) ?_)
  rintro _ w14 ⟨rfl, hx15⟩
  refine ⟨_, rfl, ?_⟩; intro a16 hF17; clear hF11; have z18 := hx15.size
  refine wpl_op (i := 1) rfl (o_val (v := (.bool false)) hF17 rfl rfl rfl rfl (rn_not' (hF17.get rfl) rfl) ?_)
  intro a19 hF20; clear hF17
  refine wpList_nil ?_
  refine hK13 _ _ ?_
  clear hK13
  refine wp_cond_false (c_false hF20 rfl rfl) ?_
  refine wp_skip ?_
  refine hK12 _ _ ?_
  clear hK12
  refine wp_seq_k (fun K21 hK21 => ?_)
  refine wp_region_lit ?_
  refine wpl_op (i := 0) rfl (o_val (v := (.slice A s.length c)) hF20 rfl rfl rfl rfl (rn_move (hF20.get rfl)) ?_)
  intro a22 hF23; clear hF20
  have d24 := ((hc.ext hx5).ext hx15)
  refine wpl_op (i := 1) rfl (o_call hF23 rfl rfl rfl rfl (rn_call (args1 (hF23.get rfl)) rfl (by kernel_rfl)) (digsOf_at s _ (v := (.slice A s.length c)) (n := s.length) d24) ?_)
  rintro _ w31 ⟨A25, c26, rfl, hf27, hx32⟩
  have z28 := (Fl.cel hf27).2.1; have z30 := digsOf_len s
  refine ⟨_, rfl, ?_⟩; intro a33 hF34; clear hF23; have z35 := hx32.size
  have hf36 : Fl (Clip (fun b => w14.heap.size ≤ b) w31) w31 32 (.slice A25 ((digsOf s).length) c26) ((digsOf s).length) (digVals (digsOf s)) := hf27.clip
  refine wpl_op (i := 2) rfl (o_val (v := (.slice A25 ((digsOf s).length) c26)) hF34 rfl rfl rfl rfl (rn_assign (hF34.get rfl)) ?_)
  intro a37 hF38; clear hF34
  refine wpList_nil ?_
  refine hK21 _ _ ?_
  clear hK21
  refine wp_seq_k (fun K39 hK39 => ?_)
  refine wp_seq_k (fun K40 hK40 => ?_)
  refine wp_region_lit ?_
  refine wpl_op (i := 0) rfl (o_val (v := (.int .i64 1)) hF38 rfl rfl rfl rfl (rn_assign rfl) ?_)
  intro a41 hF42; clear hF38
  refine wpList_nil ?_
  refine hK40 _ _ ?_
  clear hK40
  refine wp_block ?_
  have b43 : Blk w31 g2 26 (byteVals d) := ((b4.ext hx15).ext hx32)
  refine wp_loop (fun a' W => ∃ (n : Nat) (j : Nat), Sl 68 [(0, (.slice A s.length c)), (1, (.agg (byteVals d).toArray)), (3, (.pointer (some ⟨g2, 0, none⟩))), (4, (.bool false)), (13, (.bool false)), (5, (.slice A25 ((digsOf s).length) c26)), (6, (.int .i64 (n : Nat)))] a' ∧ n = 2 ^ j ∧ 1 ≤ n ∧ n ≤ 48 ∧ Ext w W ∧ Blk W g2 26 (byteVals d) ∧ Fl (Clip (fun b => w14.heap.size ≤ b) w31) W 32 (.slice A25 ((digsOf s).length) c26) ((digsOf s).length) (digVals (digsOf s)) ∧ w31.heap.size ≤ W.heap.size) (fun a' _ => 64 - (intOf (a'.eval (.tmp 6))).toNat) ⟨1, 0, (((((((hF42.nil.cons (q_get hF42 (t := 6) rfl (by first | rfl | (congr 1; omega) | (congr 1; done)))).cons (q_get hF42 (t := 5) rfl rfl)).cons (q_get hF42 (t := 13) rfl rfl)).cons (q_get hF42 (t := 4) rfl rfl)).cons (q_get hF42 (t := 3) rfl rfl)).cons (q_get hF42 (t := 1) rfl rfl)).cons (q_get hF42 (t := 0) rfl rfl)), rfl, (by omega), (by omega), ((((Ext.refl w).trans hx5).trans hx15).trans hx32), b43, hf36, (Nat.le_refl _)⟩ ?_
  clear hF42
  rintro a44 w45 ⟨n, j, hF46, hp48, hp49, hp50, hx47, b51, hf52, hf53⟩
  have hL54 := hF46
  have z55 := hx47.size
  have z56 := b51.lt
  refine wp_seq_k (fun K57 hK57 => ?_)
  refine wp_seq_k (fun K58 hK58 => ?_)
  refine wp_region_lit ?_
  refine wpl_op (i := 0) rfl (o_val (v := (.int .i64 (n : Nat))) hF46 rfl rfl rfl rfl (rn_move (hF46.get rfl)) ?_)
  intro a59 hF60; clear hF46
  refine wpl_op (i := 1) rfl (o_val (v := (.slice A25 ((digsOf s).length) c26)) hF60 rfl rfl rfl rfl (rn_move (hF60.get rfl)) ?_)
  intro a61 hF62; clear hF60
  refine wpl_op (i := 2) rfl (o_val (v := (.int .i64 ((digsOf s).length : Nat))) hF62 rfl rfl rfl rfl (rn_len_slice Tryd.underlying30 (hF62.get rfl)) ?_)
  intro a63 hF64; clear hF62
  refine wpl_op (i := 3) rfl (o_val (v := (.bool (decide (((n : Nat) : Int) ≤ (((digsOf s).length : Nat) : Int))))) hF64 rfl rfl rfl rfl (rn_leq (hF64.get rfl) (hF64.get rfl)) ?_)
  intro a65 hF66; clear hF64
  refine wpList_nil ?_
  refine hK58 _ _ ?_
  clear hK58
  by_cases hc67 : ((n : Nat) : Int) ≤ (((digsOf s).length : Nat) : Int)
  · skip
    refine wp_cond_true (c_true hF66 rfl (decide_eq_true hc67)) ?_
    refine wp_skip ?_
    refine hK57 _ _ ?_
    clear hK57
    refine wp_seq_k (fun K68 hK68 => ?_)
    refine wp_block ?_
    refine wp_seq_k (fun K69 hK69 => ?_)
    have hx71 : ∃ W, w45.drew = W ∧ Ext w45 W := ⟨_, rfl, (Ext.refl _).drew⟩
    obtain ⟨w70, e72, hx71⟩ := hx71
    have z73 := hx71.size
    refine anyg_start (fun W => Ext w70 W ∧ Blk W g2 26 (byteVals d)) (fun i => i == 9 || i == 10) (fun W => Blk W g2 26 (byteVals d)) 11 #[false, false, false, false, false, false, false, false, false, false, false] rfl rfl rfl ?_
    rw [e72]; clear e72
    refine anyg_have (n1 := 2) (L1 := #[true, true, true, true, true, true, true, true, true, false, false]) (fun a' W => ∃ (g136 : Nat) (g110 : Nat) (g213 : Nat), Sl 68 [(0, (.slice A s.length c)), (1, (.agg (byteVals d).toArray)), (3, (.pointer (some ⟨g2, 0, none⟩))), (4, (.bool false)), (5, (.slice A25 ((digsOf s).length) c26)), (6, (.int .i64 (n : Nat))), (7, (.pointer (some ⟨g136, 0, none⟩))), (8, (.pointer (some ⟨g110, 0, none⟩))), (13, (.bool false)), (19, (.bool (decide (((n : Nat) : Int) ≤ (((digsOf s).length : Nat) : Int))))), (25, (.agg (byteVals (treeD ((digsOf s).take n))).toArray)), (28, (.agg (byteVals (treeD ([d]))).toArray))] a' ∧ Ext w70 W ∧ Blk W g213 26 (byteVals (d)) ∧ w70.heap.size ≤ g213 ∧ Blk W g136 26 (byteVals (List.replicate 32 0)) ∧ w70.heap.size ≤ g136 ∧ Blk W g110 26 (byteVals (List.replicate 32 0)) ∧ w70.heap.size ≤ g110 ∧ g213 ≠ g136 ∧ g213 ≠ g110 ∧ g136 ≠ g110) ?_ (fun st258 => ?_)
    · skip
      rintro a259 w260 ⟨g136, g110, g213, hF261, hx262, b263, z264, b265, z266, b267, z268, z269, z270, z271⟩
      clear hF66
      have z272 := hx262.size
      have z273 := b263.lt
      have z274 := b265.lt
      have z275 := b267.lt
      refine anyg_one (i := 9) (by decide +kernel) rfl ?_
      refine o_store (cells := (byteVals (treeD ((digsOf s).take n)))) hF261 rfl rfl rfl rfl (hF261.get rfl) (hF261.get rfl) b265 ((by kernel_rfl : (Tryd.prog.info? 26).map (·.size) = some 32).trans (congrArg some (byteVals_len (treeD_len _)).symm)) ((byteVals_len (show List.length (List.replicate 32 0) = _ from List.length_replicate)).trans (byteVals_len (treeD_len _)).symm) (byteVals_one _) ?_
      intro w276 b277 hg278; have z279 := hg278.size
      have b280 : Blk w276 g2 26 (byteVals d) := (((b51.ext hx71).ext hx262).grownN hg278 (by omega))
      refine ⟨⟨fun h => absurd h (by decide), fun _ => b280⟩, ?_⟩
      refine anyg_one (i := 10) (by decide +kernel) rfl ?_
      have b284 : Blk w276 g110 26 (byteVals (List.replicate 32 0)) := (b267.grownN hg278 (by omega))
      refine o_store (cells := (byteVals (treeD ([d])))) hF261 rfl rfl rfl rfl (hF261.get rfl) (hF261.get rfl) b284 ((by kernel_rfl : (Tryd.prog.info? 26).map (·.size) = some 32).trans (congrArg some (byteVals_len (treeD_len _)).symm)) ((byteVals_len (show List.length (List.replicate 32 0) = _ from List.length_replicate)).trans (byteVals_len (treeD_len _)).symm) (byteVals_one _) ?_
      intro w281 b282 hg283; have z285 := hg283.size
      have b286 : Blk w281 g2 26 (byteVals d) := (b280.grownN hg283 (by omega))
      refine ⟨⟨fun h => absurd h (by decide), fun _ => b286⟩, ?_⟩
      refine anyg_nil (by decide +kernel) ?_
      refine hK69 _ _ ?_
      clear hK69
      refine wp_seq_k (fun K287 hK287 => ?_)
      have hx289 : ∃ W, w281.drew = W ∧ Ext w281 W := ⟨_, rfl, (Ext.refl _).drew⟩
      obtain ⟨w288, e290, hx289⟩ := hx289
      have z291 := hx289.size
      refine any_start (fun W => Ext w288 W ∧ Blk W g2 26 (byteVals d)) (fun i => false) 9 #[false, false, false, false, false, false, false, false, false] rfl rfl rfl ?_
      rw [e290]; clear e290
      refine any_have (n1 := 2) (L1 := #[true, true, true, true, true, true, true, false, false]) (fun a' W => ∃ (A361 : Option Addr) (c362 : Nat) (g311 : Nat), Sl 68 [(0, (.slice A s.length c)), (1, (.agg (byteVals d).toArray)), (3, (.pointer (some ⟨g2, 0, none⟩))), (4, (.bool false)), (5, (.slice A25 ((digsOf s).length) c26)), (6, (.int .i64 (n : Nat))), (7, (.pointer (some ⟨g136, 0, none⟩))), (8, (.pointer (some ⟨g110, 0, none⟩))), (13, (.bool false)), (19, (.bool (decide (((n : Nat) : Int) ≤ (((digsOf s).length : Nat) : Int))))), (33, (.slice A361 (0 + n) c362)), (35, (.slice (some ⟨g311, 0, none⟩) 1 1))] a' ∧ Ext w288 W ∧ Blk W g311 26 (byteVals (d)) ∧ w288.heap.size ≤ g311 ∧ W.ownsRow w288.heap.size 26 32 (.slice A361 (0 + n) c362) (0 + n) (digVals ((digsOf s).take n)) ∧ some g311 ≠ (Value.slice A361 (0 + n) c362).ownBlock) ?_ (fun st427 => ?_)
      · skip
        rintro a428 w429 ⟨A361, c362, g311, hF430, hx431, b432, z433, r434, nb435⟩
        clear hF261
        have z436 := hx431.size
        have z437 := b432.lt
        have z438 := own_form0 r434
        refine any_one (i := 7) (by decide +kernel) rfl ?_
        have hf447 := r434
        have b448 : Blk w429 g2 26 (byteVals d) := ((b286.ext hx289).ext hx431)
        have nb449 : some g2 ≠ (Value.slice A361 (0 + n) c362).ownBlock := (own_ne r434 (by omega : g2 < w288.heap.size))
        have z450 := b448.lt
        have b451 : Blk w429 g213 26 (byteVals (d)) := ((((b263.grownN hg278 (by omega)).grownN hg283 (by omega)).ext hx289).ext hx431)
        have nb452 : some g213 ≠ (Value.slice A361 (0 + n) c362).ownBlock := (own_ne r434 (by omega : g213 < w288.heap.size))
        have z453 := b451.lt
        have b454 : Blk w429 g136 26 (byteVals (treeD ((digsOf s).take n))) := (((b277.grownN hg283 (by omega)).ext hx289).ext hx431)
        have nb455 : some g136 ≠ (Value.slice A361 (0 + n) c362).ownBlock := (own_ne r434 (by omega : g136 < w288.heap.size))
        have z456 := b454.lt
        have b457 : Blk w429 g110 26 (byteVals (treeD ([d]))) := ((b282.ext hx289).ext hx431)
        have nb458 : some g110 ≠ (Value.slice A361 (0 + n) c362).ownBlock := (own_ne r434 (by omega : g110 < w288.heap.size))
        have z459 := b457.lt
        have nb460 : some g311 ≠ (Value.slice A361 (0 + n) c362).ownBlock := nb435
        have z461 := b432.lt
        refine o_appB (zs := digVals (((digsOf s).take n) ++ ([d]))) El30 hF430 rfl rfl rfl rfl rfl (hF430.get rfl) (hF430.get rfl) hf447 (Fl.cel (Fl.digblk (S := fun b => b = g311) b432 (All32.sing hd) (by simp [digVals, byteVals]))).2.2 (by omega) (by omega) (by omega) (digVals_app _ _) ?_
        intro A439 c440 w441 a462 hF463 r442 hg443 z444 z445 hnb446; clear hF430; have z464 := hg443.size
        have nb465 := hnb446 g2 (by omega) nb449
        have nb466 := hnb446 g213 (by omega) nb452
        have nb467 := hnb446 g136 (by omega) nb455
        have nb468 := hnb446 g110 (by omega) nb458
        have nb469 := hnb446 g311 (by omega) nb460
        have b470 : Blk w441 g2 26 (byteVals d) := (b448.grown hg443 nb449)
        refine ⟨fun _ _ => ⟨(ext_row ((Ext.refl w288).trans hx431) hg443 hf447 (by omega)), b470⟩, ?_⟩
        refine any_pure (i := 8) (v := (.slice A439 ((0 + n) + 1) c440)) hF463 (by decide +kernel) (by decide +kernel) rfl rfl rfl rfl (fun _ _ _ _ h => h) rfl (fun W => (rn_assign (hF463.get rfl))) ?_
        intro a471 hF472; clear hF463
        refine any_nil (by decide +kernel) ?_
        refine hK287 _ _ ?_
        clear hK287
        refine wp_seq_k (fun K473 hK473 => ?_)
        refine wp_region_lit ?_
        refine wpl_op (i := 0) rfl (o_val (v := (.slice A439 ((0 + n) + 1) c440)) hF472 rfl rfl rfl rfl (rn_move (hF472.get rfl)) ?_)
        intro a474 hF475; clear hF472
        refine wpl_op (i := 1) rfl (o_val (v := (.int .i64 (n : Nat))) hF475 rfl rfl rfl rfl (rn_move (hF475.get rfl)) ?_)
        intro a476 hF477; clear hF475
        refine wpl_op (i := 2) rfl (o_call hF477 rfl rfl rfl rfl (rn_call (args2 (hF477.get rfl) (hF477.get rfl)) rfl (by kernel_rfl)) (path_at (((digsOf s).take n) ++ ([d])) ((n : Nat) : Int) _ (v := (.slice A439 ((0 + n) + 1) c440)) (n := (0 + n) + 1) (All32.app (All32.take (digsOf_32 _) _) (All32.sing hd)) (Fl.own (S := fun b => w288.heap.size ≤ b) r442 (fun b hb => hb) (digVals_one _)) (hG.ext (ext_row ((((((((Ext.refl w).trans hx47).trans hx71).trans hx262).grownN hg278 (by omega)).grownN hg283 (by omega)).trans hx289).trans hx431) hg443 hf447 (by omega))) (by omega)) ?_)
        rw [next_path hp48 (by omega)]
        rintro _ w484 ⟨A478, n479, c480, rfl, hf481, h32482, hx485⟩
        have z483 := (Fl.cel hf481).2.1
        have z486 : 1 = n479 := Fl.dlen hf481 h32482
        obtain ⟨q487, hq488⟩ : ∃ z, z = treeD ((digsOf s).take n) := ⟨_, rfl⟩
        rw [← hq488] at hf481
        have hq489 : q487.length = 32 := by rw [hq488]; exact treeD_len _
        refine ⟨_, rfl, ?_⟩; intro a490 hF491; clear hF477; have z492 := hx485.size
        have hf493 : Fl (Clip (fun b => w441.heap.size ≤ b) w484) w484 32 (.slice A478 n479 c480) n479 (digVals ([q487])) := hf481.clip
        refine wpl_op (i := 3) rfl (o_val (v := (.tuple #[(.slice A478 n479 c480), (.int .i64 0)])) hF491 rfl rfl rfl rfl (rn_move (hF491.get rfl)) ?_)
        intro a494 hF495; clear hF491
        refine wpl_op (i := 4) rfl (o_val (v := (.slice A478 n479 c480)) hF495 rfl rfl rfl rfl (rn_extract (hF495.get rfl) rfl) ?_)
        intro a496 hF497; clear hF495
        refine wpl_op (i := 5) rfl (o_val (v := (.int .i64 0)) hF497 rfl rfl rfl rfl (rn_extract (hF497.get rfl) rfl) ?_)
        intro a498 hF499; clear hF497
        refine wpl_op (i := 6) rfl (o_val (v := (.slice A478 n479 c480)) hF499 rfl rfl rfl rfl (rn_assign (hF499.get rfl)) ?_)
        intro a500 hF501; clear hF499
        refine wpl_op (i := 7) rfl (o_val (v := (.int .i64 0)) hF501 rfl rfl rfl rfl (rn_assign (hF501.get rfl)) ?_)
        intro a502 hF503; clear hF501
        refine wpList_nil ?_
        refine hK473 _ _ ?_
        clear hK473
        have hF504 := (((((((((((((hF503.nil.cons (hF503.get (t := 11) (v := (.int .i64 0)) rfl)).cons (hF503.get (t := 10) (v := (.slice A478 n479 c480)) rfl)).cons (hF503.get (t := 9) (v := (.slice A439 ((0 + n) + 1) c440)) rfl)).cons (hF503.get (t := 19) (v := (.bool (decide (((n : Nat) : Int) ≤ (((digsOf s).length : Nat) : Int))))) rfl)).cons (hF503.get (t := 13) (v := (.bool false)) rfl)).cons (hF503.get (t := 8) (v := (.pointer (some ⟨g110, 0, none⟩))) rfl)).cons (hF503.get (t := 7) (v := (.pointer (some ⟨g136, 0, none⟩))) rfl)).cons (hF503.get (t := 6) (v := (.int .i64 (n : Nat))) rfl)).cons (hF503.get (t := 5) (v := (.slice A25 ((digsOf s).length) c26)) rfl)).cons (hF503.get (t := 4) (v := (.bool false)) rfl)).cons (hF503.get (t := 3) (v := (.pointer (some ⟨g2, 0, none⟩))) rfl)).cons (hF503.get (t := 1) (v := (.agg (byteVals d).toArray)) rfl)).cons (hF503.get (t := 0) (v := (.slice A s.length c)) rfl))
        clear hF503
        refine wp_seq_k (fun K505 hK505 => ?_)
        have hx507 : ∃ W, w484.drew = W ∧ Ext w484 W := ⟨_, rfl, (Ext.refl _).drew⟩
        obtain ⟨w506, e508, hx507⟩ := hx507
        have z509 := hx507.size
        refine any_start (fun W => Ext w506 W ∧ Blk W g136 26 (byteVals (treeD ((digsOf s).take n))) ∧ Blk W g110 26 (byteVals (treeD ([d])))) (fun i => false) 25 #[false, false, false, false, false, false, false, false, false, false, false, false, false, false, false, false, false, false, false, false, false, false, false, false, false] rfl rfl rfl ?_
        rw [e508]; clear e508
        refine any_have (n1 := 20) (L1 := #[true, true, true, true, false, true, false, false, false, false, false, false, false, false, false, false, false, false, false, false, false, false, false, false, false]) (fun a' W => ∃ (g525 : Nat), Sl 68 [(0, (.slice A s.length c)), (1, (.agg (byteVals d).toArray)), (3, (.pointer (some ⟨g2, 0, none⟩))), (4, (.bool false)), (5, (.slice A25 ((digsOf s).length) c26)), (6, (.int .i64 (n : Nat))), (7, (.pointer (some ⟨g136, 0, none⟩))), (8, (.pointer (some ⟨g110, 0, none⟩))), (9, (.slice A439 ((0 + n) + 1) c440)), (10, (.slice A478 n479 c480)), (11, (.int .i64 0)), (13, (.bool false)), (19, (.bool (decide (((n : Nat) : Int) ≤ (((digsOf s).length : Nat) : Int))))), (44, (.agg (byteVals (treeD (((digsOf s).take n) ++ ([d])))).toArray)), (45, (.slice (some ⟨g525, 0, none⟩) 0 0)), (46, (.slice (some ⟨g136, 0, none⟩) 32 32)), (48, (.slice (some ⟨g110, 0, none⟩) 32 32))] a' ∧ Ext w506 W ∧ Blk W g525 5 [] ∧ w506.heap.size ≤ g525) ?_ (fun st585 => ?_)
        · skip
          rintro a586 w587 ⟨g525, hF588, hx589, b590, z591⟩
          clear hF504
          have z592 := hx589.size
          have z593 := b590.lt
          refine any_one (i := 4) (by decide +kernel) rfl ?_
          have b595 : Blk w587 g136 26 (byteVals (treeD ((digsOf s).take n))) := ((((b454.grown hg443 nb455).ext hx485).ext hx507).ext hx589)
          have hf604 := (own_blk0 (k := 1) b590)
          refine o_appB (zs := byteVals (treeD ((digsOf s).take n))) El22 hF588 rfl rfl rfl rfl rfl (hF588.get rfl) (hF588.get rfl) hf604 (Fl.cel (Fl.blk (S := fun b => b = g136) (k := 1) (n := 32) (c := 32) b595 (by rw [byteVals_len (treeD_len _), Nat.mul_one]) (byteVals_one _) (by omega) rfl)).2.2 (by omega) (by omega) (by omega) (List.nil_append _) ?_
          intro A596 c597 w598 a605 hF606 r599 hg600 z601 z602 hnb603; clear hF588; have z607 := hg600.size
          have b608 : Blk w598 g136 26 (byteVals (treeD ((digsOf s).take n))) := (grown_blk hf604 hg600 b595 (by decide))
          have b609 : Blk w598 g110 26 (byteVals (treeD ([d]))) := (grown_blk hf604 hg600 ((((b457.grown hg443 nb458).ext hx485).ext hx507).ext hx589) (by decide))
          refine ⟨fun _ _ => ⟨(ext_row ((Ext.refl w506).trans hx589) hg600 hf604 (by omega)), b608, b609⟩, ?_⟩
          refine any_one (i := 6) (by decide +kernel) rfl ?_
          have hf618 := r599
          refine o_appB (zs := byteVals ((treeD ((digsOf s).take n)) ++ (treeD ([d])))) El22 hF606 rfl rfl rfl rfl rfl (hF606.get rfl) (hF606.get rfl) hf618 (Fl.cel (Fl.blk (S := fun b => b = g110) (k := 1) (n := 32) (c := 32) b609 (by rw [byteVals_len (treeD_len _), Nat.mul_one]) (byteVals_one _) (by omega) rfl)).2.2 (by omega) (by omega) (by omega) (byteVals_app _ _) ?_
          intro A610 c611 w612 a619 hF620 r613 hg614 z615 z616 hnb617; clear hF606; have z621 := hg614.size
          have b622 : Blk w612 g136 26 (byteVals (treeD ((digsOf s).take n))) := (grown_blk hf618 hg614 b608 (by decide))
          have b623 : Blk w612 g110 26 (byteVals (treeD ([d]))) := (grown_blk hf618 hg614 b609 (by decide))
          refine ⟨fun _ _ => ⟨(ext_row (ext_row ((Ext.refl w506).trans hx589) hg600 hf604 (by omega)) hg614 hf618 (by omega)), b622, b623⟩, ?_⟩
          refine any_one (i := 7) (by decide +kernel) rfl ?_
          refine o_call hF620 rfl rfl rfl rfl (rn_call (args2 rfl (hF620.get rfl)) rfl (by kernel_rfl)) (tagged_at ([110, 111, 100, 101]) (v := (.slice A610 ((0 + 32) + 32) c611)) (n := (0 + 32) + 32) ((treeD ((digsOf s).take n)) ++ (treeD ([d]))) _ (Fl.own (S := fun b => g525 ≤ b) r613 (fun b hb => hb) (byteVals_one _)) (hG.ext (ext_row (ext_row ((((ext_row ((((((((Ext.refl w).trans hx47).trans hx71).trans hx262).grownN hg278 (by omega)).grownN hg283 (by omega)).trans hx289).trans hx431) hg443 hf447 (by omega)).trans hx485).trans hx507).trans hx589) hg600 hf604 (by omega)) hg614 hf618 (by omega))) (by simp <;> omega) (by omega)) ?_
          rintro _ w624 ⟨rfl, hx625⟩
          refine ⟨_, rfl, ?_⟩; intro a626 hF627; clear hF620; have z628 := hx625.size
          have b629 : Blk w624 g136 26 (byteVals (treeD ((digsOf s).take n))) := (b622.ext hx625)
          have b630 : Blk w624 g110 26 (byteVals (treeD ([d]))) := (b623.ext hx625)
          refine ⟨fun _ _ => ⟨((ext_row (ext_row ((Ext.refl w506).trans hx589) hg600 hf604 (by omega)) hg614 hf618 (by omega)).trans hx625), b629, b630⟩, ?_⟩
          refine any_pure (i := 8) (v := (.bool (!decide (treeD (((digsOf s).take n) ++ ([d])) = tagged ([110, 111, 100, 101]) ((treeD ((digsOf s).take n)) ++ (treeD ([d]))))))) hF627 (by decide +kernel) (by decide +kernel) rfl rfl rfl rfl (fun _ _ _ _ h => h) rfl (fun W => (rn_neA Tryd.underlying26 Tryd.underlying5 (by kernel_rfl : (Tryd.prog.info? 5).map (·.size) = some 1) (by kernel_rfl) (hF627.get rfl) (hF627.get rfl) (treeD_len _) (tagged_len _ _))) ?_
          intro a631 hF632; clear hF627
          refine any_pure (i := 9) (v := (.bool (!decide (treeD (((digsOf s).take n) ++ ([d])) = tagged ([110, 111, 100, 101]) ((treeD ((digsOf s).take n)) ++ (treeD ([d]))))))) hF632 (by decide +kernel) (by decide +kernel) rfl rfl rfl rfl (fun _ _ _ _ h => h) rfl (fun W => (rn_move (hF632.get rfl))) ?_
          intro a633 hF634; clear hF632
          refine any_pure (i := 10) (v := (.int .i64 0)) hF634 (by decide +kernel) (by decide +kernel) rfl rfl rfl rfl (fun _ _ _ _ h => h) (wanted_guard rfl rfl rfl hF634 rfl (not_t ((decide_eq_true (next_tree hp48 (by omega))) : decide (treeD (((digsOf s).take n) ++ ([d])) = tagged ([110, 111, 100, 101]) ((treeD ((digsOf s).take n)) ++ (treeD ([d])))) = true)) rfl) (fun W => (rn_move (hF634.get rfl))) ?_
          intro a636 hF637; clear hF634
          refine any_pure (i := 11) (v := (.bool false)) hF637 (by decide +kernel) (by decide +kernel) rfl rfl rfl rfl (fun _ _ _ _ h => h) (wanted_guard rfl rfl rfl hF637 rfl (not_t ((decide_eq_true (next_tree hp48 (by omega))) : decide (treeD (((digsOf s).take n) ++ ([d])) = tagged ([110, 111, 100, 101]) ((treeD ((digsOf s).take n)) ++ (treeD ([d])))) = true)) rfl) (fun W => (rn_neq' (hF637.get rfl) rfl (by decide))) ?_
          intro a638 hF639; clear hF637
          refine any_pure (i := 12) (v := (.bool false)) hF639 (by decide +kernel) (by decide +kernel) rfl rfl rfl rfl (fun _ _ _ _ h => h) rfl (fun W => (rn_pickF (c_false hF639 rfl (not_t ((decide_eq_true (next_tree hp48 (by omega))) : decide (treeD (((digsOf s).take n) ++ ([d])) = tagged ([110, 111, 100, 101]) ((treeD ((digsOf s).take n)) ++ (treeD ([d])))) = true))) (hF639.get rfl))) ?_
          intro a640 hF641; clear hF639
          refine any_pure (i := 13) (v := (.bool false)) hF641 (by decide +kernel) (by decide +kernel) rfl rfl rfl rfl (fun _ _ _ _ h => h) rfl (fun W => (rn_move (hF641.get rfl))) ?_
          intro a642 hF643; clear hF641
          refine any_pure (i := 14) (v := (.slice A478 n479 c480)) hF643 (by decide +kernel) (by decide +kernel) rfl rfl rfl rfl (fun _ _ _ _ h => h) (wanted_guard rfl rfl rfl hF643 rfl rfl rfl) (fun W => (rn_move (hF643.get rfl))) ?_
          intro a644 hF645; clear hF643
          refine any_pure (i := 15) (v := (.int .i64 (n479 : Nat))) hF645 (by decide +kernel) (by decide +kernel) rfl rfl rfl rfl (fun _ _ _ _ h => h) (wanted_guard rfl rfl rfl hF645 rfl rfl rfl) (fun W => (rn_len_slice Tryd.underlying30 (hF645.get rfl))) ?_
          intro a646 hF647; clear hF645
          refine any_pure (i := 16) (v := (.bool (decide (((n479 : Nat) : Int) ≠ (1 : Int))))) hF647 (by decide +kernel) (by decide +kernel) rfl rfl rfl rfl (fun _ _ _ _ h => h) (wanted_guard rfl rfl rfl hF647 rfl rfl rfl) (fun W => (rn_neq (hF647.get rfl) rfl)) ?_
          intro a648 hF649; clear hF647
          refine any_pure (i := 17) (v := (.bool (decide (((n479 : Nat) : Int) ≠ (1 : Int))))) hF649 (by decide +kernel) (by decide +kernel) rfl rfl rfl rfl (fun _ _ _ _ h => h) rfl (fun W => (rn_pickF (c_false hF649 rfl rfl) (hF649.get rfl))) ?_
          intro a650 hF651; clear hF649
          refine any_pure (i := 18) (v := (.bool (decide (((n479 : Nat) : Int) ≠ (1 : Int))))) hF651 (by decide +kernel) (by decide +kernel) rfl rfl rfl rfl (fun _ _ _ _ h => h) rfl (fun W => (rn_move (hF651.get rfl))) ?_
          intro a652 hF653; clear hF651
          refine any_pure (i := 19) (v := (.slice A478 n479 c480)) hF653 (by decide +kernel) (by decide +kernel) rfl rfl rfl rfl (fun _ _ _ _ h => h) (wanted_guard rfl rfl rfl hF653 rfl ((decide_eq_false (by omega)) : decide (((n479 : Nat) : Int) ≠ (1 : Int)) = false) rfl) (fun W => (rn_move (hF653.get rfl))) ?_
          intro a655 hF656; clear hF653
          have d660 := (hf493.pres ((Pres.row (Pres.row (((Pres.refl w484).ext hx507).ext hx589) hg600 hf604 (fun b hb h => by simp only [Clip] at h; omega)) hg614 hf618 (fun b hb h => by simp only [Clip] at h; omega)).ext hx625))
          obtain ⟨b657, o658, hA659, -⟩ := Fl.at d660 (by omega)
          refine any_pure (i := 20) (v := (.pointer (some ⟨b657, o658 + 0 * 32, none⟩))) hF656 (by decide +kernel) (by decide +kernel) rfl rfl rfl rfl (fun _ _ _ _ h => h) (wanted_guard rfl rfl rfl hF656 rfl ((decide_eq_false (by omega)) : decide (((n479 : Nat) : Int) ≠ (1 : Int)) = false) rfl) (fun W => (rn_indexE Tryd.underlying30 (by kernel_rfl : (Tryd.prog.info? 26).map (·.size) = some 32) ((hF656.get rfl).trans (by rw [hA659])) rfl (by omega : (0 : Int) ≤ 0) (by omega : (0 : Int) < ((n479 : Nat) : Int)) (by omega))) ?_
          intro a661 hF662; clear hF656
          have hS663 : Ext w506 w624 ∧ Blk w624 g136 26 (byteVals (treeD ((digsOf s).take n))) ∧ Blk w624 g110 26 (byteVals (treeD ([d]))) := ⟨((ext_row (ext_row ((Ext.refl w506).trans hx589) hg600 hf604 (by omega)) hg614 hf618 (by omega)).trans hx625), b629, b630⟩
          have d664 := (hf493.ext hx507)
          refine any_val (i := 21) (v := (.agg (byteVals (([q487]).getD 0 [])).toArray)) hF662 (by decide +kernel) (by decide +kernel) rfl rfl rfl rfl (fun _ _ _ _ h => h) (wanted_guard rfl rfl rfl hF662 rfl ((decide_eq_false (by omega)) : decide (((n479 : Nat) : Int) ≠ (1 : Int)) = false) rfl) hS663 (fun W hW => (rn_loadN (cs := byteVals (([q487]).getD 0 [])) (hF662.get rfl) Tryd.underlying26 rfl ((by kernel_rfl : (Tryd.prog.info? 26).map (·.size) = some 32).trans (congrArg some (byteVals_len (dig_len (All32.sing hq489) 0 (by have := (show List.length [q487] = 1 from rfl); omega))).symm)) (Fl.digAt (d664.ext hW.1) hA659 (All32.sing hq489) (by have := (show List.length [q487] = 1 from rfl); omega)))) ?_
          intro a665 hF666; clear hF662
          refine any_val (i := 22) (v := (.agg (byteVals (treeD ((digsOf s).take n))).toArray)) hF666 (by decide +kernel) (by decide +kernel) rfl rfl rfl rfl (fun _ _ _ _ h => h) (wanted_guard rfl rfl rfl hF666 rfl ((decide_eq_false (by omega)) : decide (((n479 : Nat) : Int) ≠ (1 : Int)) = false) rfl) hS663 (fun W hW => (rn_loadBlk (hF666.get rfl) hW.2.1 Tryd.underlying26 rfl ((by kernel_rfl : (Tryd.prog.info? 26).map (·.size) = some 32).trans (congrArg some (byteVals_len (treeD_len _)).symm)))) ?_
          intro a667 hF668; clear hF666
          refine any_pure (i := 23) (v := (.bool (!decide (([q487]).getD 0 [] = treeD ((digsOf s).take n))))) hF668 (by decide +kernel) (by decide +kernel) rfl rfl rfl rfl (fun _ _ _ _ h => h) (wanted_guard rfl rfl rfl hF668 rfl ((decide_eq_false (by omega)) : decide (((n479 : Nat) : Int) ≠ (1 : Int)) = false) rfl) (fun W => (rn_neA Tryd.underlying26 Tryd.underlying5 (by kernel_rfl : (Tryd.prog.info? 5).map (·.size) = some 1) (by kernel_rfl) (hF668.get rfl) (hF668.get rfl) (dig_len (All32.sing hq489) 0 (by have := (show List.length [q487] = 1 from rfl); omega)) (treeD_len _))) ?_
          intro a669 hF670; clear hF668
          refine any_pure (i := 24) (v := (.bool (!decide (([q487]).getD 0 [] = treeD ((digsOf s).take n))))) hF670 (by decide +kernel) (by decide +kernel) rfl rfl rfl rfl (fun _ _ _ _ h => h) rfl (fun W => (rn_pickF (c_false hF670 rfl ((decide_eq_false (by omega)) : decide (((n479 : Nat) : Int) ≠ (1 : Int)) = false)) (hF670.get rfl))) ?_
          intro a671 hF672; clear hF670
          refine any_nil (by decide +kernel) ?_
          refine hK505 _ _ ?_
          clear hK505
          have hF673 := ((((((((((((((hF672.nil.cons (hF672.get (t := 67) (v := (.bool (!decide (([q487]).getD 0 [] = treeD ((digsOf s).take n))))) rfl)).cons (hF672.get (t := 19) (v := (.bool (decide (((n : Nat) : Int) ≤ (((digsOf s).length : Nat) : Int))))) rfl)).cons (hF672.get (t := 13) (v := (.bool false)) rfl)).cons (hF672.get (t := 11) (v := (.int .i64 0)) rfl)).cons (hF672.get (t := 10) (v := (.slice A478 n479 c480)) rfl)).cons (hF672.get (t := 9) (v := (.slice A439 ((0 + n) + 1) c440)) rfl)).cons (hF672.get (t := 8) (v := (.pointer (some ⟨g110, 0, none⟩))) rfl)).cons (hF672.get (t := 7) (v := (.pointer (some ⟨g136, 0, none⟩))) rfl)).cons (hF672.get (t := 6) (v := (.int .i64 (n : Nat))) rfl)).cons (hF672.get (t := 5) (v := (.slice A25 ((digsOf s).length) c26)) rfl)).cons (hF672.get (t := 4) (v := (.bool false)) rfl)).cons (hF672.get (t := 3) (v := (.pointer (some ⟨g2, 0, none⟩))) rfl)).cons (hF672.get (t := 1) (v := (.agg (byteVals d).toArray)) rfl)).cons (hF672.get (t := 0) (v := (.slice A s.length c)) rfl))
          clear hF672
          refine wp_cond_false (c_false hF673 rfl (not_t ((decide_eq_true hq488) : decide (([q487]).getD 0 [] = treeD ((digsOf s).take n)) = true))) ?_
          refine wp_skip ?_
          refine hK68 _ _ ?_
          clear hK68
          refine wp_region_lit ?_
          refine wpl_op (i := 0) rfl (o_val (v := (.int .i64 (n : Nat))) hF673 rfl rfl rfl rfl (rn_move (hF673.get rfl)) ?_)
          intro a675 hF676; clear hF673
          refine wpl_op (i := 1) rfl (o_val (v := (.int .i64 (n * 2 : Nat))) hF676 rfl rfl rfl rfl (rn_mulN (a := n) (b := 2) (hF676.get rfl) rfl (by omega)) ?_)
          intro a677 hF678; clear hF676
          refine wpl_op (i := 2) rfl (o_val (v := (.int .i64 (n * 2 : Nat))) hF678 rfl rfl rfl rfl (rn_assign (hF678.get rfl)) ?_)
          intro a679 hF680; clear hF678
          refine wpList_nil ?_
          have d681 := (hf52.pres ((Pres.row (Pres.row ((((Pres.row (((((((Pres.refl w45).ext hx71).ext hx262).grownN hg278 (fun h => by simp only [Clip] at h; omega)).grownN hg283 (fun h => by simp only [Clip] at h; omega)).ext hx289).ext hx431) hg443 hf447 (fun b hb h => by simp only [Clip] at h; omega)).ext hx485).ext hx507).ext hx589) hg600 hf604 (fun b hb h => by simp only [Clip] at h; omega)) hg614 hf618 (fun b hb h => by simp only [Clip] at h; omega)).ext hx625))
          have b682 : Blk w624 g2 26 (byteVals d) := ((grown_blk hf618 hg614 (grown_blk hf604 hg600 (((b470.ext hx485).ext hx507).ext hx589) (by decide)) (by decide)).ext hx625)
          refine ⟨⟨n * 2, (j + 1), (((((((hF680.nil.cons (q_get hF680 (t := 6) rfl (by first | rfl | (congr 1; omega) | (congr 1; done)))).cons (q_get hF680 (t := 5) rfl rfl)).cons (q_get hF680 (t := 13) rfl rfl)).cons (q_get hF680 (t := 4) rfl rfl)).cons (q_get hF680 (t := 3) rfl rfl)).cons (q_get hF680 (t := 1) rfl rfl)).cons (q_get hF680 (t := 0) rfl rfl)), (by rw [Nat.pow_succ]; omega), (by omega), (by omega), ((ext_row (ext_row ((((ext_row ((((((((Ext.refl w).trans hx47).trans hx71).trans hx262).grownN hg278 (by omega)).grownN hg283 (by omega)).trans hx289).trans hx431) hg443 hf447 (by omega)).trans hx485).trans hx507).trans hx589) hg600 hf604 (by omega)) hg614 hf618 (by omega)).trans hx625), b682, d681, (by omega)⟩, ?_⟩
          rw [hF680.get (t := 6) rfl, hL54.get (t := 6) rfl]; simp [intOf] <;> omega
        refine any_pure (i := 0) (v := (.slice A439 ((0 + n) + 1) c440)) hF504 (by decide +kernel) (by decide +kernel) rfl rfl rfl rfl (fun _ _ _ _ h => h) rfl (fun W => (rn_move (hF504.get rfl))) ?_
        intro a683 hF684; clear hF504
        refine any_pure (i := 3) (v := (.slice (some ⟨g136, 0, none⟩) 32 32)) hF684 (by decide +kernel) (by decide +kernel) rfl rfl rfl rfl (fun _ _ _ _ h => h) rfl (fun W => (rn_arrAll Tryd.underlying26 (by kernel_rfl : (Tryd.prog.info? 5).map (·.size) = some 1) (hF684.get rfl))) ?_
        intro a685 hF686; clear hF684
        refine any_pure (i := 5) (v := (.slice (some ⟨g110, 0, none⟩) 32 32)) hF686 (by decide +kernel) (by decide +kernel) rfl rfl rfl rfl (fun _ _ _ _ h => h) rfl (fun W => (rn_arrAll Tryd.underlying26 (by kernel_rfl : (Tryd.prog.info? 5).map (·.size) = some 1) (hF686.get rfl))) ?_
        intro a687 hF688; clear hF686
        refine any_two (i := 1) (k := 2) (by decide +kernel) rfl rfl ?_ ?_
        · skip
          have r689 := (own_ext (own_ext r442 hx485) hx507)
          have hf690 := (Fl.own (S := fun b => w288.heap.size ≤ b) r689 (fun b hb => hb) (digVals_one _))
          refine o_call hF688 rfl rfl rfl rfl (rn_call (args1 (hF688.get rfl)) rfl (by kernel_rfl)) (tree_at (((digsOf s).take n) ++ ([d])) _ (n := (0 + n) + 1) (v := (.slice A439 ((0 + n) + 1) c440)) (All32.app (All32.take (digsOf_32 _) _) (All32.sing hd)) hf690 (hG.ext (((ext_row ((((((((Ext.refl w).trans hx47).trans hx71).trans hx262).grownN hg278 (by omega)).grownN hg283 (by omega)).trans hx289).trans hx431) hg443 hf447 (by omega)).trans hx485).trans hx507))) ?_
          rintro _ w691 ⟨rfl, hx692⟩
          refine ⟨_, rfl, ?_⟩; intro a693 hF694; clear hF688; have z695 := hx692.size
          have b696 : Blk w691 g136 26 (byteVals (treeD ((digsOf s).take n))) := ((((b454.grown hg443 nb455).ext hx485).ext hx507).ext hx692)
          have b697 : Blk w691 g110 26 (byteVals (treeD ([d]))) := ((((b457.grown hg443 nb458).ext hx485).ext hx507).ext hx692)
          refine ⟨fun _ _ => ⟨((Ext.refl w506).trans hx692), b696, b697⟩, ?_⟩
          refine any_one (i := 2) (by decide +kernel) rfl ?_
          refine o_new (fun g => (.slice (some ⟨g, 0, none⟩) 0 0)) [] 5 hF694 rfl rfl rfl rfl (rn_buildSlice (parts0 ) (by kernel_rfl)) ?_
          intro g698 w699 a704 hF705 z702 z703 b700 hx701; clear hF694
          have b706 : Blk w699 g136 26 (byteVals (treeD ((digsOf s).take n))) := (b696.ext hx701)
          have b707 : Blk w699 g110 26 (byteVals (treeD ([d]))) := (b697.ext hx701)
          refine ⟨fun _ _ => ⟨(((Ext.refl w506).trans hx692).trans hx701), b706, b707⟩, ?_⟩
          exact st585 _ _ ⟨g698, (((((((((((((((((hF705.nil.cons (hF705.get (t := 48) (v := (.slice (some ⟨g110, 0, none⟩) 32 32)) rfl)).cons (hF705.get (t := 46) (v := (.slice (some ⟨g136, 0, none⟩) 32 32)) rfl)).cons (hF705.get (t := 45) (v := (.slice (some ⟨g698, 0, none⟩) 0 0)) rfl)).cons (hF705.get (t := 44) (v := (.agg (byteVals (treeD (((digsOf s).take n) ++ ([d])))).toArray)) rfl)).cons (hF705.get (t := 19) (v := (.bool (decide (((n : Nat) : Int) ≤ (((digsOf s).length : Nat) : Int))))) rfl)).cons (hF705.get (t := 13) (v := (.bool false)) rfl)).cons (hF705.get (t := 11) (v := (.int .i64 0)) rfl)).cons (hF705.get (t := 10) (v := (.slice A478 n479 c480)) rfl)).cons (hF705.get (t := 9) (v := (.slice A439 ((0 + n) + 1) c440)) rfl)).cons (hF705.get (t := 8) (v := (.pointer (some ⟨g110, 0, none⟩))) rfl)).cons (hF705.get (t := 7) (v := (.pointer (some ⟨g136, 0, none⟩))) rfl)).cons (hF705.get (t := 6) (v := (.int .i64 (n : Nat))) rfl)).cons (hF705.get (t := 5) (v := (.slice A25 ((digsOf s).length) c26)) rfl)).cons (hF705.get (t := 4) (v := (.bool false)) rfl)).cons (hF705.get (t := 3) (v := (.pointer (some ⟨g2, 0, none⟩))) rfl)).cons (hF705.get (t := 1) (v := (.agg (byteVals d).toArray)) rfl)).cons (hF705.get (t := 0) (v := (.slice A s.length c)) rfl)), (((Ext.refl w506).trans hx692).trans hx701), b700, (by omega)⟩
        · skip
          refine o_new (fun g => (.slice (some ⟨g, 0, none⟩) 0 0)) [] 5 hF688 rfl rfl rfl rfl (rn_buildSlice (parts0 ) (by kernel_rfl)) ?_
          intro g708 w709 a714 hF715 z712 z713 b710 hx711; clear hF688
          have b716 : Blk w709 g136 26 (byteVals (treeD ((digsOf s).take n))) := ((((b454.grown hg443 nb455).ext hx485).ext hx507).ext hx711)
          have b717 : Blk w709 g110 26 (byteVals (treeD ([d]))) := ((((b457.grown hg443 nb458).ext hx485).ext hx507).ext hx711)
          refine ⟨fun _ _ => ⟨((Ext.refl w506).trans hx711), b716, b717⟩, ?_⟩
          refine any_one (i := 1) (by decide +kernel) rfl ?_
          have r718 := (own_ext (own_ext (own_ext r442 hx485) hx507) hx711)
          have hf719 := (Fl.own (S := fun b => w288.heap.size ≤ b) r718 (fun b hb => hb) (digVals_one _))
          refine o_call hF715 rfl rfl rfl rfl (rn_call (args1 (hF715.get rfl)) rfl (by kernel_rfl)) (tree_at (((digsOf s).take n) ++ ([d])) _ (n := (0 + n) + 1) (v := (.slice A439 ((0 + n) + 1) c440)) (All32.app (All32.take (digsOf_32 _) _) (All32.sing hd)) hf719 (hG.ext ((((ext_row ((((((((Ext.refl w).trans hx47).trans hx71).trans hx262).grownN hg278 (by omega)).grownN hg283 (by omega)).trans hx289).trans hx431) hg443 hf447 (by omega)).trans hx485).trans hx507).trans hx711))) ?_
          rintro _ w720 ⟨rfl, hx721⟩
          refine ⟨_, rfl, ?_⟩; intro a722 hF723; clear hF715; have z724 := hx721.size
          have b725 : Blk w720 g136 26 (byteVals (treeD ((digsOf s).take n))) := (b716.ext hx721)
          have b726 : Blk w720 g110 26 (byteVals (treeD ([d]))) := (b717.ext hx721)
          refine ⟨fun _ _ => ⟨(((Ext.refl w506).trans hx711).trans hx721), b725, b726⟩, ?_⟩
          have b727 : Blk w720 g708 5 [] := (b710.ext hx721)
          exact st585 _ _ ⟨g708, (((((((((((((((((hF723.nil.cons (hF723.get (t := 48) (v := (.slice (some ⟨g110, 0, none⟩) 32 32)) rfl)).cons (hF723.get (t := 46) (v := (.slice (some ⟨g136, 0, none⟩) 32 32)) rfl)).cons (hF723.get (t := 45) (v := (.slice (some ⟨g708, 0, none⟩) 0 0)) rfl)).cons (hF723.get (t := 44) (v := (.agg (byteVals (treeD (((digsOf s).take n) ++ ([d])))).toArray)) rfl)).cons (hF723.get (t := 19) (v := (.bool (decide (((n : Nat) : Int) ≤ (((digsOf s).length : Nat) : Int))))) rfl)).cons (hF723.get (t := 13) (v := (.bool false)) rfl)).cons (hF723.get (t := 11) (v := (.int .i64 0)) rfl)).cons (hF723.get (t := 10) (v := (.slice A478 n479 c480)) rfl)).cons (hF723.get (t := 9) (v := (.slice A439 ((0 + n) + 1) c440)) rfl)).cons (hF723.get (t := 8) (v := (.pointer (some ⟨g110, 0, none⟩))) rfl)).cons (hF723.get (t := 7) (v := (.pointer (some ⟨g136, 0, none⟩))) rfl)).cons (hF723.get (t := 6) (v := (.int .i64 (n : Nat))) rfl)).cons (hF723.get (t := 5) (v := (.slice A25 ((digsOf s).length) c26)) rfl)).cons (hF723.get (t := 4) (v := (.bool false)) rfl)).cons (hF723.get (t := 3) (v := (.pointer (some ⟨g2, 0, none⟩))) rfl)).cons (hF723.get (t := 1) (v := (.agg (byteVals d).toArray)) rfl)).cons (hF723.get (t := 0) (v := (.slice A s.length c)) rfl)), (((Ext.refl w506).trans hx711).trans hx721), b727, (by omega)⟩
      refine any_have (n1 := 3) (L1 := #[true, true, true, true, false, true, true, false, false]) (fun a' W => ∃ (g320 : Nat) (g311 : Nat), Sl 68 [(0, (.slice A s.length c)), (1, (.agg (byteVals d).toArray)), (3, (.pointer (some ⟨g2, 0, none⟩))), (4, (.bool false)), (5, (.slice A25 ((digsOf s).length) c26)), (6, (.int .i64 (n : Nat))), (7, (.pointer (some ⟨g136, 0, none⟩))), (8, (.pointer (some ⟨g110, 0, none⟩))), (13, (.bool false)), (19, (.bool (decide (((n : Nat) : Int) ≤ (((digsOf s).length : Nat) : Int))))), (29, (.slice (some ⟨g320, 0, none⟩) 0 0)), (32, (.slice A25 n c26)), (35, (.slice (some ⟨g311, 0, none⟩) 1 1))] a' ∧ Ext w288 W ∧ Blk W g320 26 [] ∧ w288.heap.size ≤ g320 ∧ Blk W g311 26 (byteVals (d)) ∧ w288.heap.size ≤ g311 ∧ g320 ≠ g311) ?_ (fun st728 => ?_)
      · skip
        rintro a729 w730 ⟨g320, g311, hF731, hx732, b733, z734, b735, z736, z737⟩
        clear hF261
        have z738 := hx732.size
        have z739 := b733.lt
        have z740 := b735.lt
        refine any_one (i := 4) (by decide +kernel) rfl ?_
        have d742 := (hf52.pres (((((((Pres.refl w45).ext hx71).ext hx262).grownN hg278 (fun h => by simp only [Clip] at h; omega)).grownN hg283 (fun h => by simp only [Clip] at h; omega)).ext hx289).ext hx732))
        have hf751 := (own_blk0 (k := 32) b733)
        have b752 : Blk w730 g2 26 (byteVals d) := ((b286.ext hx289).ext hx732)
        have nb753 : some g2 ≠ (Value.slice (some ⟨g320, 0, none⟩) 0 0).ownBlock := (ne_slice (n := 0) (c := 0) (by omega : g2 ≠ g320))
        have z754 := b752.lt
        have b755 : Blk w730 g213 26 (byteVals (d)) := ((((b263.grownN hg278 (by omega)).grownN hg283 (by omega)).ext hx289).ext hx732)
        have nb756 : some g213 ≠ (Value.slice (some ⟨g320, 0, none⟩) 0 0).ownBlock := (ne_slice (n := 0) (c := 0) (by omega : g213 ≠ g320))
        have z757 := b755.lt
        have b758 : Blk w730 g136 26 (byteVals (treeD ((digsOf s).take n))) := (((b277.grownN hg283 (by omega)).ext hx289).ext hx732)
        have nb759 : some g136 ≠ (Value.slice (some ⟨g320, 0, none⟩) 0 0).ownBlock := (ne_slice (n := 0) (c := 0) (by omega : g136 ≠ g320))
        have z760 := b758.lt
        have b761 : Blk w730 g110 26 (byteVals (treeD ([d]))) := ((b282.ext hx289).ext hx732)
        have nb762 : some g110 ≠ (Value.slice (some ⟨g320, 0, none⟩) 0 0).ownBlock := (ne_slice (n := 0) (c := 0) (by omega : g110 ≠ g320))
        have z763 := b761.lt
        have nb764 : some g311 ≠ (Value.slice (some ⟨g320, 0, none⟩) 0 0).ownBlock := (ne_slice (n := 0) (c := 0) (by omega : g311 ≠ g320))
        have z765 := b735.lt
        refine o_appB (zs := digVals ((digsOf s).take n)) El30 hF731 rfl rfl rfl rfl rfl (hF731.get rfl) (hF731.get rfl) hf751 (Fl.cel (Fl.take_eq (j := n) d742 (by omega) (digVals_take (digsOf_32 _) _))).2.2 (by omega) (by omega) (by omega) (List.nil_append _) ?_
        intro A743 c744 w745 a766 hF767 r746 hg747 z748 z749 hnb750; clear hF731; have z768 := hg747.size
        have nb769 := hnb750 g2 (by omega) nb753
        have nb770 := hnb750 g213 (by omega) nb756
        have nb771 := hnb750 g136 (by omega) nb759
        have nb772 := hnb750 g110 (by omega) nb762
        have nb773 := hnb750 g311 (by omega) nb764
        have b774 : Blk w745 g2 26 (byteVals d) := (b752.grown hg747 nb753)
        refine ⟨fun _ _ => ⟨(ext_row ((Ext.refl w288).trans hx732) hg747 hf751 (by omega)), b774⟩, ?_⟩
        have b775 : Blk w745 g311 26 (byteVals (d)) := (b735.grown hg747 nb764)
        exact st427 _ _ ⟨A743, c744, g311, ((((((((((((hF767.nil.cons (hF767.get (t := 35) (v := (.slice (some ⟨g311, 0, none⟩) 1 1)) rfl)).cons (hF767.get (t := 33) (v := (.slice A743 (0 + n) c744)) rfl)).cons (hF767.get (t := 19) (v := (.bool (decide (((n : Nat) : Int) ≤ (((digsOf s).length : Nat) : Int))))) rfl)).cons (hF767.get (t := 13) (v := (.bool false)) rfl)).cons (hF767.get (t := 8) (v := (.pointer (some ⟨g110, 0, none⟩))) rfl)).cons (hF767.get (t := 7) (v := (.pointer (some ⟨g136, 0, none⟩))) rfl)).cons (hF767.get (t := 6) (v := (.int .i64 (n : Nat))) rfl)).cons (hF767.get (t := 5) (v := (.slice A25 ((digsOf s).length) c26)) rfl)).cons (hF767.get (t := 4) (v := (.bool false)) rfl)).cons (hF767.get (t := 3) (v := (.pointer (some ⟨g2, 0, none⟩))) rfl)).cons (hF767.get (t := 1) (v := (.agg (byteVals d).toArray)) rfl)).cons (hF767.get (t := 0) (v := (.slice A s.length c)) rfl)), (ext_row ((Ext.refl w288).trans hx732) hg747 hf751 (by omega)), b775, (by omega), (own_base r746 (by omega)), nb773⟩
      refine any_pure (i := 1) (v := (.slice A25 ((digsOf s).length) c26)) hF261 (by decide +kernel) (by decide +kernel) rfl rfl rfl rfl (fun _ _ _ _ h => h) rfl (fun W => (rn_move (hF261.get rfl))) ?_
      intro a776 hF777; clear hF261
      refine any_pure (i := 2) (v := (.int .i64 (n : Nat))) hF777 (by decide +kernel) (by decide +kernel) rfl rfl rfl rfl (fun _ _ _ _ h => h) rfl (fun W => (rn_move (hF777.get rfl))) ?_
      intro a778 hF779; clear hF777
      refine any_pure (i := 3) (v := (.slice A25 n c26)) hF779 (by decide +kernel) (by decide +kernel) rfl rfl rfl rfl (fun _ _ _ _ h => h) rfl (fun W => (rn_sliceHi Tryd.underlying30 (by kernel_rfl : (Tryd.prog.info? 26).map (·.size) = some 32) (hF779.get rfl) (hF779.get rfl) (by omega : (0 : Int) ≤ (n : Nat)) (by omega : ((n : Nat) : Int) ≤ ((c26 : Nat) : Int)))) ?_
      intro a780 hF781; clear hF779
      have b783 : Blk w288 g2 26 (byteVals d) := (b286.ext hx289)
      have hS782 : Ext w288 w288 ∧ Blk w288 g2 26 (byteVals d) := ⟨(Ext.refl w288), b783⟩
      refine any_val (i := 5) (v := (.agg (byteVals d).toArray)) hF781 (by decide +kernel) (by decide +kernel) rfl rfl rfl rfl (fun _ _ _ _ h => h) rfl hS782 (fun W hW => (rn_loadBlk (hF781.get rfl) hW.2 Tryd.underlying26 rfl ((by kernel_rfl : (Tryd.prog.info? 26).map (·.size) = some 32).trans (congrArg some (byteVals_len hd).symm)))) ?_
      intro a784 hF785; clear hF781
      refine any_two (i := 0) (k := 6) (by decide +kernel) rfl rfl ?_ ?_
      · skip
        refine o_new (fun g => (.slice (some ⟨g, 0, none⟩) 0 0)) [] 26 hF785 rfl rfl rfl rfl (rn_buildSlice (parts0 ) (by kernel_rfl)) ?_
        intro g786 w787 a792 hF793 z790 z791 b788 hx789; clear hF785
        have b794 : Blk w787 g2 26 (byteVals d) := (b783.ext hx789)
        refine ⟨fun _ _ => ⟨((Ext.refl w288).trans hx789), b794⟩, ?_⟩
        refine any_two (i := 4) (k := 6) (by decide +kernel) rfl rfl ?_ ?_
        · skip
          have d796 := (hf52.pres (((((((Pres.refl w45).ext hx71).ext hx262).grownN hg278 (fun h => by simp only [Clip] at h; omega)).grownN hg283 (fun h => by simp only [Clip] at h; omega)).ext hx289).ext hx789))
          have hf805 := (own_blk0 (k := 32) b788)
          have nb806 : some g2 ≠ (Value.slice (some ⟨g786, 0, none⟩) 0 0).ownBlock := (ne_slice (n := 0) (c := 0) (by omega : g2 ≠ g786))
          have z807 := b794.lt
          have b808 : Blk w787 g213 26 (byteVals (d)) := ((((b263.grownN hg278 (by omega)).grownN hg283 (by omega)).ext hx289).ext hx789)
          have nb809 : some g213 ≠ (Value.slice (some ⟨g786, 0, none⟩) 0 0).ownBlock := (ne_slice (n := 0) (c := 0) (by omega : g213 ≠ g786))
          have z810 := b808.lt
          have b811 : Blk w787 g136 26 (byteVals (treeD ((digsOf s).take n))) := (((b277.grownN hg283 (by omega)).ext hx289).ext hx789)
          have nb812 : some g136 ≠ (Value.slice (some ⟨g786, 0, none⟩) 0 0).ownBlock := (ne_slice (n := 0) (c := 0) (by omega : g136 ≠ g786))
          have z813 := b811.lt
          have b814 : Blk w787 g110 26 (byteVals (treeD ([d]))) := ((b282.ext hx289).ext hx789)
          have nb815 : some g110 ≠ (Value.slice (some ⟨g786, 0, none⟩) 0 0).ownBlock := (ne_slice (n := 0) (c := 0) (by omega : g110 ≠ g786))
          have z816 := b814.lt
          refine o_appB (zs := digVals ((digsOf s).take n)) El30 hF793 rfl rfl rfl rfl rfl (hF793.get rfl) (hF793.get rfl) hf805 (Fl.cel (Fl.take_eq (j := n) d796 (by omega) (digVals_take (digsOf_32 _) _))).2.2 (by omega) (by omega) (by omega) (List.nil_append _) ?_
          intro A797 c798 w799 a817 hF818 r800 hg801 z802 z803 hnb804; clear hF793; have z819 := hg801.size
          have nb820 := hnb804 g2 (by omega) nb806
          have nb821 := hnb804 g213 (by omega) nb809
          have nb822 := hnb804 g136 (by omega) nb812
          have nb823 := hnb804 g110 (by omega) nb815
          have b824 : Blk w799 g2 26 (byteVals d) := (b794.grown hg801 nb806)
          refine ⟨fun _ _ => ⟨(ext_row ((Ext.refl w288).trans hx789) hg801 hf805 (by omega)), b824⟩, ?_⟩
          refine any_one (i := 6) (by decide +kernel) rfl ?_
          have hf825 := r800
          refine o_new (fun g => (.slice (some ⟨g, 0, none⟩) 1 1)) (byteVals (d)) 26 hF818 rfl rfl rfl rfl (rn_buildSlice (parts1 (hF818.get rfl)) (build_wholeE (vs := [(.agg (byteVals d).toArray)]) El30 rfl rfl (fun v hv => by rw [List.mem_singleton.1 hv]; exact (byteVals_len hd)) (by decide) (by decide) (by simp [Value.cells, byteVals]))) ?_
          intro g826 w827 a832 hF833 z830 z831 b828 hx829; clear hF818
          have nb834 := own_new (g := g826) hf825 (by omega)
          have b835 : Blk w827 g2 26 (byteVals d) := (b824.ext hx829)
          refine ⟨fun _ _ => ⟨((ext_row ((Ext.refl w288).trans hx789) hg801 hf805 (by omega)).trans hx829), b835⟩, ?_⟩
          have r836 := (own_ext r800 hx829)
          exact st427 _ _ ⟨A797, c798, g826, ((((((((((((hF833.nil.cons (hF833.get (t := 35) (v := (.slice (some ⟨g826, 0, none⟩) 1 1)) rfl)).cons (hF833.get (t := 33) (v := (.slice A797 (0 + n) c798)) rfl)).cons (hF833.get (t := 19) (v := (.bool (decide (((n : Nat) : Int) ≤ (((digsOf s).length : Nat) : Int))))) rfl)).cons (hF833.get (t := 13) (v := (.bool false)) rfl)).cons (hF833.get (t := 8) (v := (.pointer (some ⟨g110, 0, none⟩))) rfl)).cons (hF833.get (t := 7) (v := (.pointer (some ⟨g136, 0, none⟩))) rfl)).cons (hF833.get (t := 6) (v := (.int .i64 (n : Nat))) rfl)).cons (hF833.get (t := 5) (v := (.slice A25 ((digsOf s).length) c26)) rfl)).cons (hF833.get (t := 4) (v := (.bool false)) rfl)).cons (hF833.get (t := 3) (v := (.pointer (some ⟨g2, 0, none⟩))) rfl)).cons (hF833.get (t := 1) (v := (.agg (byteVals d).toArray)) rfl)).cons (hF833.get (t := 0) (v := (.slice A s.length c)) rfl)), ((ext_row ((Ext.refl w288).trans hx789) hg801 hf805 (by omega)).trans hx829), b828, (by omega), (own_base r836 (by omega)), nb834⟩
        · skip
          refine o_new (fun g => (.slice (some ⟨g, 0, none⟩) 1 1)) (byteVals (d)) 26 hF793 rfl rfl rfl rfl (rn_buildSlice (parts1 (hF793.get rfl)) (build_wholeE (vs := [(.agg (byteVals d).toArray)]) El30 rfl rfl (fun v hv => by rw [List.mem_singleton.1 hv]; exact (byteVals_len hd)) (by decide) (by decide) (by simp [Value.cells, byteVals]))) ?_
          intro g837 w838 a843 hF844 z841 z842 b839 hx840; clear hF793
          have b845 : Blk w838 g2 26 (byteVals d) := (b794.ext hx840)
          refine ⟨fun _ _ => ⟨(((Ext.refl w288).trans hx789).trans hx840), b845⟩, ?_⟩
          have b846 : Blk w838 g786 26 [] := (b788.ext hx840)
          exact st728 _ _ ⟨g786, g837, (((((((((((((hF844.nil.cons (hF844.get (t := 35) (v := (.slice (some ⟨g837, 0, none⟩) 1 1)) rfl)).cons (hF844.get (t := 32) (v := (.slice A25 n c26)) rfl)).cons (hF844.get (t := 29) (v := (.slice (some ⟨g786, 0, none⟩) 0 0)) rfl)).cons (hF844.get (t := 19) (v := (.bool (decide (((n : Nat) : Int) ≤ (((digsOf s).length : Nat) : Int))))) rfl)).cons (hF844.get (t := 13) (v := (.bool false)) rfl)).cons (hF844.get (t := 8) (v := (.pointer (some ⟨g110, 0, none⟩))) rfl)).cons (hF844.get (t := 7) (v := (.pointer (some ⟨g136, 0, none⟩))) rfl)).cons (hF844.get (t := 6) (v := (.int .i64 (n : Nat))) rfl)).cons (hF844.get (t := 5) (v := (.slice A25 ((digsOf s).length) c26)) rfl)).cons (hF844.get (t := 4) (v := (.bool false)) rfl)).cons (hF844.get (t := 3) (v := (.pointer (some ⟨g2, 0, none⟩))) rfl)).cons (hF844.get (t := 1) (v := (.agg (byteVals d).toArray)) rfl)).cons (hF844.get (t := 0) (v := (.slice A s.length c)) rfl)), (((Ext.refl w288).trans hx789).trans hx840), b846, (by omega), b839, (by omega), (by omega)⟩
      · skip
        refine o_new (fun g => (.slice (some ⟨g, 0, none⟩) 1 1)) (byteVals (d)) 26 hF785 rfl rfl rfl rfl (rn_buildSlice (parts1 (hF785.get rfl)) (build_wholeE (vs := [(.agg (byteVals d).toArray)]) El30 rfl rfl (fun v hv => by rw [List.mem_singleton.1 hv]; exact (byteVals_len hd)) (by decide) (by decide) (by simp [Value.cells, byteVals]))) ?_
        intro g847 w848 a853 hF854 z851 z852 b849 hx850; clear hF785
        have b855 : Blk w848 g2 26 (byteVals d) := (b783.ext hx850)
        refine ⟨fun _ _ => ⟨((Ext.refl w288).trans hx850), b855⟩, ?_⟩
        refine any_one (i := 0) (by decide +kernel) rfl ?_
        refine o_new (fun g => (.slice (some ⟨g, 0, none⟩) 0 0)) [] 26 hF854 rfl rfl rfl rfl (rn_buildSlice (parts0 ) (by kernel_rfl)) ?_
        intro g856 w857 a862 hF863 z860 z861 b858 hx859; clear hF854
        have b864 : Blk w857 g2 26 (byteVals d) := (b855.ext hx859)
        refine ⟨fun _ _ => ⟨(((Ext.refl w288).trans hx850).trans hx859), b864⟩, ?_⟩
        have b865 : Blk w857 g847 26 (byteVals (d)) := (b849.ext hx859)
        exact st728 _ _ ⟨g856, g847, (((((((((((((hF863.nil.cons (hF863.get (t := 35) (v := (.slice (some ⟨g847, 0, none⟩) 1 1)) rfl)).cons (hF863.get (t := 32) (v := (.slice A25 n c26)) rfl)).cons (hF863.get (t := 29) (v := (.slice (some ⟨g856, 0, none⟩) 0 0)) rfl)).cons (hF863.get (t := 19) (v := (.bool (decide (((n : Nat) : Int) ≤ (((digsOf s).length : Nat) : Int))))) rfl)).cons (hF863.get (t := 13) (v := (.bool false)) rfl)).cons (hF863.get (t := 8) (v := (.pointer (some ⟨g110, 0, none⟩))) rfl)).cons (hF863.get (t := 7) (v := (.pointer (some ⟨g136, 0, none⟩))) rfl)).cons (hF863.get (t := 6) (v := (.int .i64 (n : Nat))) rfl)).cons (hF863.get (t := 5) (v := (.slice A25 ((digsOf s).length) c26)) rfl)).cons (hF863.get (t := 4) (v := (.bool false)) rfl)).cons (hF863.get (t := 3) (v := (.pointer (some ⟨g2, 0, none⟩))) rfl)).cons (hF863.get (t := 1) (v := (.agg (byteVals d).toArray)) rfl)).cons (hF863.get (t := 0) (v := (.slice A s.length c)) rfl)), (((Ext.refl w288).trans hx850).trans hx859), b858, (by omega), b865, (by omega), (by omega)⟩
    refine anyg_have (n1 := 3) (L1 := #[true, true, true, true, true, true, false, true, true, false, false]) (fun a' W => ∃ (g136 : Nat) (g110 : Nat) (g213 : Nat), Sl 68 [(0, (.slice A s.length c)), (1, (.agg (byteVals d).toArray)), (3, (.pointer (some ⟨g2, 0, none⟩))), (4, (.bool false)), (5, (.slice A25 ((digsOf s).length) c26)), (6, (.int .i64 (n : Nat))), (7, (.pointer (some ⟨g136, 0, none⟩))), (8, (.pointer (some ⟨g110, 0, none⟩))), (13, (.bool false)), (19, (.bool (decide (((n : Nat) : Int) ≤ (((digsOf s).length : Nat) : Int))))), (25, (.agg (byteVals (treeD ((digsOf s).take n))).toArray)), (27, (.slice (some ⟨g213, 0, none⟩) 1 1))] a' ∧ Ext w70 W ∧ Blk W g213 26 (byteVals (d)) ∧ w70.heap.size ≤ g213 ∧ Blk W g136 26 (byteVals (List.replicate 32 0)) ∧ w70.heap.size ≤ g136 ∧ Blk W g110 26 (byteVals (List.replicate 32 0)) ∧ w70.heap.size ≤ g110 ∧ g213 ≠ g136 ∧ g213 ≠ g110 ∧ g136 ≠ g110) ?_ (fun st866 => ?_)
    · skip
      rintro a867 w868 ⟨g136, g110, g213, hF869, hx870, b871, z872, b873, z874, b875, z876, z877, z878, z879⟩
      clear hF66
      have z880 := hx870.size
      have z881 := b871.lt
      have z882 := b873.lt
      have z883 := b875.lt
      refine anyg_one (i := 6) (by decide +kernel) rfl ?_
      have hf884 := (Fl.digblk (S := fun b => b = g213) (n := 1) b871 (All32.sing hd) (by simp [digVals, byteVals]))
      refine o_call hF869 rfl rfl rfl rfl (rn_call (args1 (hF869.get rfl)) rfl (by kernel_rfl)) (tree_at ([d]) _ (n := 1) (v := (.slice (some ⟨g213, 0, none⟩) 1 1)) (All32.sing hd) hf884 (hG.ext ((((Ext.refl w).trans hx47).trans hx71).trans hx870))) ?_
      rintro _ w885 ⟨rfl, hx886⟩
      refine ⟨_, rfl, ?_⟩; intro a887 hF888; clear hF869; have z889 := hx886.size
      have b890 : Blk w885 g2 26 (byteVals d) := (((b51.ext hx71).ext hx870).ext hx886)
      refine ⟨⟨fun _ _ => ⟨(((Ext.refl w70).trans hx870).trans hx886), b890⟩, fun _ => b890⟩, ?_⟩
      have b891 : Blk w885 g213 26 (byteVals (d)) := (b871.ext hx886)
      have b892 : Blk w885 g136 26 (byteVals (List.replicate 32 0)) := (b873.ext hx886)
      have b893 : Blk w885 g110 26 (byteVals (List.replicate 32 0)) := (b875.ext hx886)
      exact st258 _ _ ⟨g136, g110, g213, ((((((((((((hF888.nil.cons (hF888.get (t := 28) (v := (.agg (byteVals (treeD ([d]))).toArray)) rfl)).cons (hF888.get (t := 25) (v := (.agg (byteVals (treeD ((digsOf s).take n))).toArray)) rfl)).cons (hF888.get (t := 19) (v := (.bool (decide (((n : Nat) : Int) ≤ (((digsOf s).length : Nat) : Int))))) rfl)).cons (hF888.get (t := 13) (v := (.bool false)) rfl)).cons (hF888.get (t := 8) (v := (.pointer (some ⟨g110, 0, none⟩))) rfl)).cons (hF888.get (t := 7) (v := (.pointer (some ⟨g136, 0, none⟩))) rfl)).cons (hF888.get (t := 6) (v := (.int .i64 (n : Nat))) rfl)).cons (hF888.get (t := 5) (v := (.slice A25 ((digsOf s).length) c26)) rfl)).cons (hF888.get (t := 4) (v := (.bool false)) rfl)).cons (hF888.get (t := 3) (v := (.pointer (some ⟨g2, 0, none⟩))) rfl)).cons (hF888.get (t := 1) (v := (.agg (byteVals d).toArray)) rfl)).cons (hF888.get (t := 0) (v := (.slice A s.length c)) rfl)), (((Ext.refl w70).trans hx870).trans hx886), b891, (by omega), b892, (by omega), b893, (by omega), (by omega), (by omega), (by omega)⟩
    refine anyg_have (n1 := 3) (L1 := #[true, true, true, true, true, true, true, true, false, false, false]) (fun a' W => ∃ (g230 : Nat) (g92 : Nat), Sl 68 [(0, (.slice A s.length c)), (1, (.agg (byteVals d).toArray)), (3, (.pointer (some ⟨g2, 0, none⟩))), (4, (.bool false)), (5, (.slice A25 ((digsOf s).length) c26)), (6, (.int .i64 (n : Nat))), (7, (.pointer (some ⟨g230, 0, none⟩))), (13, (.bool false)), (19, (.bool (decide (((n : Nat) : Int) ≤ (((digsOf s).length : Nat) : Int))))), (25, (.agg (byteVals (treeD ((digsOf s).take n))).toArray)), (28, (.agg (byteVals (treeD ([d]))).toArray))] a' ∧ Ext w70 W ∧ Blk W g92 26 (byteVals (d)) ∧ w70.heap.size ≤ g92 ∧ Blk W g230 26 (byteVals (List.replicate 32 0)) ∧ w70.heap.size ≤ g230 ∧ g92 ≠ g230) ?_ (fun st894 => ?_)
    · skip
      rintro a895 w896 ⟨g230, g92, hF897, hx898, b899, z900, b901, z902, z903⟩
      clear hF66
      have z904 := hx898.size
      have z905 := b899.lt
      have z906 := b901.lt
      refine anyg_one (i := 8) (by decide +kernel) rfl ?_
      refine o_new (fun g => (.pointer (some ⟨g, 0, none⟩))) (byteVals (List.replicate 32 0)) 26 hF897 rfl rfl rfl rfl (by kernel_rfl) ?_
      intro g907 w908 a913 hF914 z911 z912 b909 hx910; clear hF897
      have b915 : Blk w908 g2 26 (byteVals d) := (((b51.ext hx71).ext hx898).ext hx910)
      refine ⟨⟨fun _ _ => ⟨(((Ext.refl w70).trans hx898).trans hx910), b915⟩, fun _ => b915⟩, ?_⟩
      have b916 : Blk w908 g92 26 (byteVals (d)) := (b899.ext hx910)
      have b917 : Blk w908 g230 26 (byteVals (List.replicate 32 0)) := (b901.ext hx910)
      exact st258 _ _ ⟨g230, g907, g92, ((((((((((((hF914.nil.cons (hF914.get (t := 28) (v := (.agg (byteVals (treeD ([d]))).toArray)) rfl)).cons (hF914.get (t := 25) (v := (.agg (byteVals (treeD ((digsOf s).take n))).toArray)) rfl)).cons (hF914.get (t := 19) (v := (.bool (decide (((n : Nat) : Int) ≤ (((digsOf s).length : Nat) : Int))))) rfl)).cons (hF914.get (t := 13) (v := (.bool false)) rfl)).cons (hF914.get (t := 8) (v := (.pointer (some ⟨g907, 0, none⟩))) rfl)).cons (hF914.get (t := 7) (v := (.pointer (some ⟨g230, 0, none⟩))) rfl)).cons (hF914.get (t := 6) (v := (.int .i64 (n : Nat))) rfl)).cons (hF914.get (t := 5) (v := (.slice A25 ((digsOf s).length) c26)) rfl)).cons (hF914.get (t := 4) (v := (.bool false)) rfl)).cons (hF914.get (t := 3) (v := (.pointer (some ⟨g2, 0, none⟩))) rfl)).cons (hF914.get (t := 1) (v := (.agg (byteVals d).toArray)) rfl)).cons (hF914.get (t := 0) (v := (.slice A s.length c)) rfl)), (((Ext.refl w70).trans hx898).trans hx910), b916, (by omega), b917, (by omega), b909, (by omega), (by omega), (by omega), (by omega)⟩
    refine anyg_have (n1 := 3) (L1 := #[true, true, true, true, true, true, true, false, true, false, false]) (fun a' W => ∃ (g204 : Nat) (g92 : Nat), Sl 68 [(0, (.slice A s.length c)), (1, (.agg (byteVals d).toArray)), (3, (.pointer (some ⟨g2, 0, none⟩))), (4, (.bool false)), (5, (.slice A25 ((digsOf s).length) c26)), (6, (.int .i64 (n : Nat))), (8, (.pointer (some ⟨g204, 0, none⟩))), (13, (.bool false)), (19, (.bool (decide (((n : Nat) : Int) ≤ (((digsOf s).length : Nat) : Int))))), (25, (.agg (byteVals (treeD ((digsOf s).take n))).toArray)), (28, (.agg (byteVals (treeD ([d]))).toArray))] a' ∧ Ext w70 W ∧ Blk W g92 26 (byteVals (d)) ∧ w70.heap.size ≤ g92 ∧ Blk W g204 26 (byteVals (List.replicate 32 0)) ∧ w70.heap.size ≤ g204 ∧ g92 ≠ g204) ?_ (fun st918 => ?_)
    · skip
      rintro a919 w920 ⟨g204, g92, hF921, hx922, b923, z924, b925, z926, z927⟩
      clear hF66
      have z928 := hx922.size
      have z929 := b923.lt
      have z930 := b925.lt
      refine anyg_one (i := 7) (by decide +kernel) rfl ?_
      refine o_new (fun g => (.pointer (some ⟨g, 0, none⟩))) (byteVals (List.replicate 32 0)) 26 hF921 rfl rfl rfl rfl (by kernel_rfl) ?_
      intro g931 w932 a937 hF938 z935 z936 b933 hx934; clear hF921
      have b939 : Blk w932 g2 26 (byteVals d) := (((b51.ext hx71).ext hx922).ext hx934)
      refine ⟨⟨fun _ _ => ⟨(((Ext.refl w70).trans hx922).trans hx934), b939⟩, fun _ => b939⟩, ?_⟩
      have b940 : Blk w932 g92 26 (byteVals (d)) := (b923.ext hx934)
      have b941 : Blk w932 g204 26 (byteVals (List.replicate 32 0)) := (b925.ext hx934)
      exact st258 _ _ ⟨g931, g204, g92, ((((((((((((hF938.nil.cons (hF938.get (t := 28) (v := (.agg (byteVals (treeD ([d]))).toArray)) rfl)).cons (hF938.get (t := 25) (v := (.agg (byteVals (treeD ((digsOf s).take n))).toArray)) rfl)).cons (hF938.get (t := 19) (v := (.bool (decide (((n : Nat) : Int) ≤ (((digsOf s).length : Nat) : Int))))) rfl)).cons (hF938.get (t := 13) (v := (.bool false)) rfl)).cons (hF938.get (t := 8) (v := (.pointer (some ⟨g204, 0, none⟩))) rfl)).cons (hF938.get (t := 7) (v := (.pointer (some ⟨g931, 0, none⟩))) rfl)).cons (hF938.get (t := 6) (v := (.int .i64 (n : Nat))) rfl)).cons (hF938.get (t := 5) (v := (.slice A25 ((digsOf s).length) c26)) rfl)).cons (hF938.get (t := 4) (v := (.bool false)) rfl)).cons (hF938.get (t := 3) (v := (.pointer (some ⟨g2, 0, none⟩))) rfl)).cons (hF938.get (t := 1) (v := (.agg (byteVals d).toArray)) rfl)).cons (hF938.get (t := 0) (v := (.slice A s.length c)) rfl)), (((Ext.refl w70).trans hx922).trans hx934), b940, (by omega), b933, (by omega), b941, (by omega), (by omega), (by omega), (by omega)⟩
    refine anyg_have (n1 := 4) (L1 := #[true, true, true, true, true, false, false, true, true, false, false]) (fun a' W => ∃ (g136 : Nat) (g110 : Nat), Sl 68 [(0, (.slice A s.length c)), (1, (.agg (byteVals d).toArray)), (3, (.pointer (some ⟨g2, 0, none⟩))), (4, (.bool false)), (5, (.slice A25 ((digsOf s).length) c26)), (6, (.int .i64 (n : Nat))), (7, (.pointer (some ⟨g136, 0, none⟩))), (8, (.pointer (some ⟨g110, 0, none⟩))), (13, (.bool false)), (19, (.bool (decide (((n : Nat) : Int) ≤ (((digsOf s).length : Nat) : Int))))), (25, (.agg (byteVals (treeD ((digsOf s).take n))).toArray)), (26, (.agg (byteVals d).toArray))] a' ∧ Ext w70 W ∧ Blk W g136 26 (byteVals (List.replicate 32 0)) ∧ w70.heap.size ≤ g136 ∧ Blk W g110 26 (byteVals (List.replicate 32 0)) ∧ w70.heap.size ≤ g110 ∧ g136 ≠ g110) ?_ (fun st942 => ?_)
    · skip
      rintro a943 w944 ⟨g136, g110, hF945, hx946, b947, z948, b949, z950, z951⟩
      clear hF66
      have z952 := hx946.size
      have z953 := b947.lt
      have z954 := b949.lt
      refine anyg_one (i := 5) (by decide +kernel) rfl ?_
      refine o_new (fun g => (.slice (some ⟨g, 0, none⟩) 1 1)) (byteVals (d)) 26 hF945 rfl rfl rfl rfl (rn_buildSlice (parts1 (hF945.get rfl)) (build_wholeE (vs := [(.agg (byteVals d).toArray)]) El30 rfl rfl (fun v hv => by rw [List.mem_singleton.1 hv]; exact (byteVals_len hd)) (by decide) (by decide) (by simp [Value.cells, byteVals]))) ?_
      intro g955 w956 a961 hF962 z959 z960 b957 hx958; clear hF945
      have b963 : Blk w956 g2 26 (byteVals d) := (((b51.ext hx71).ext hx946).ext hx958)
      refine ⟨⟨fun _ _ => ⟨(((Ext.refl w70).trans hx946).trans hx958), b963⟩, fun _ => b963⟩, ?_⟩
      have b964 : Blk w956 g136 26 (byteVals (List.replicate 32 0)) := (b947.ext hx958)
      have b965 : Blk w956 g110 26 (byteVals (List.replicate 32 0)) := (b949.ext hx958)
      exact st866 _ _ ⟨g136, g110, g955, ((((((((((((hF962.nil.cons (hF962.get (t := 27) (v := (.slice (some ⟨g955, 0, none⟩) 1 1)) rfl)).cons (hF962.get (t := 25) (v := (.agg (byteVals (treeD ((digsOf s).take n))).toArray)) rfl)).cons (hF962.get (t := 19) (v := (.bool (decide (((n : Nat) : Int) ≤ (((digsOf s).length : Nat) : Int))))) rfl)).cons (hF962.get (t := 13) (v := (.bool false)) rfl)).cons (hF962.get (t := 8) (v := (.pointer (some ⟨g110, 0, none⟩))) rfl)).cons (hF962.get (t := 7) (v := (.pointer (some ⟨g136, 0, none⟩))) rfl)).cons (hF962.get (t := 6) (v := (.int .i64 (n : Nat))) rfl)).cons (hF962.get (t := 5) (v := (.slice A25 ((digsOf s).length) c26)) rfl)).cons (hF962.get (t := 4) (v := (.bool false)) rfl)).cons (hF962.get (t := 3) (v := (.pointer (some ⟨g2, 0, none⟩))) rfl)).cons (hF962.get (t := 1) (v := (.agg (byteVals d).toArray)) rfl)).cons (hF962.get (t := 0) (v := (.slice A s.length c)) rfl)), (((Ext.refl w70).trans hx946).trans hx958), b957, (by omega), b964, (by omega), b965, (by omega), (by omega), (by omega), (by omega)⟩
    refine anyg_have (n1 := 4) (L1 := #[true, true, true, false, true, true, false, true, true, false, false]) (fun a' W => ∃ (g136 : Nat) (g110 : Nat) (g178 : Nat), Sl 68 [(0, (.slice A s.length c)), (1, (.agg (byteVals d).toArray)), (3, (.pointer (some ⟨g2, 0, none⟩))), (4, (.bool false)), (5, (.slice A25 ((digsOf s).length) c26)), (6, (.int .i64 (n : Nat))), (7, (.pointer (some ⟨g136, 0, none⟩))), (8, (.pointer (some ⟨g110, 0, none⟩))), (13, (.bool false)), (19, (.bool (decide (((n : Nat) : Int) ≤ (((digsOf s).length : Nat) : Int))))), (24, (.slice A25 n c26)), (27, (.slice (some ⟨g178, 0, none⟩) 1 1))] a' ∧ Ext w70 W ∧ Blk W g178 26 (byteVals (d)) ∧ w70.heap.size ≤ g178 ∧ Blk W g136 26 (byteVals (List.replicate 32 0)) ∧ w70.heap.size ≤ g136 ∧ Blk W g110 26 (byteVals (List.replicate 32 0)) ∧ w70.heap.size ≤ g110 ∧ g178 ≠ g136 ∧ g178 ≠ g110 ∧ g136 ≠ g110) ?_ (fun st966 => ?_)
    · skip
      rintro a967 w968 ⟨g136, g110, g178, hF969, hx970, b971, z972, b973, z974, b975, z976, z977, z978, z979⟩
      clear hF66
      have z980 := hx970.size
      have z981 := b971.lt
      have z982 := b973.lt
      have z983 := b975.lt
      refine anyg_one (i := 3) (by decide +kernel) rfl ?_
      have d984 := ((hf52.ext hx71).ext hx970)
      have hf985 := (Fl.take_eq (j := n) d984 (by omega) (digVals_take (digsOf_32 _) _))
      refine o_call hF969 rfl rfl rfl rfl (rn_call (args1 (hF969.get rfl)) rfl (by kernel_rfl)) (tree_at ((digsOf s).take n) _ (n := n) (v := (.slice A25 n c26)) (All32.take (digsOf_32 _) _) hf985 (hG.ext ((((Ext.refl w).trans hx47).trans hx71).trans hx970))) ?_
      rintro _ w986 ⟨rfl, hx987⟩
      refine ⟨_, rfl, ?_⟩; intro a988 hF989; clear hF969; have z990 := hx987.size
      have b991 : Blk w986 g2 26 (byteVals d) := (((b51.ext hx71).ext hx970).ext hx987)
      refine ⟨⟨fun _ _ => ⟨(((Ext.refl w70).trans hx970).trans hx987), b991⟩, fun _ => b991⟩, ?_⟩
      have b992 : Blk w986 g178 26 (byteVals (d)) := (b971.ext hx987)
      have b993 : Blk w986 g136 26 (byteVals (List.replicate 32 0)) := (b973.ext hx987)
      have b994 : Blk w986 g110 26 (byteVals (List.replicate 32 0)) := (b975.ext hx987)
      exact st866 _ _ ⟨g136, g110, g178, ((((((((((((hF989.nil.cons (hF989.get (t := 27) (v := (.slice (some ⟨g178, 0, none⟩) 1 1)) rfl)).cons (hF989.get (t := 25) (v := (.agg (byteVals (treeD ((digsOf s).take n))).toArray)) rfl)).cons (hF989.get (t := 19) (v := (.bool (decide (((n : Nat) : Int) ≤ (((digsOf s).length : Nat) : Int))))) rfl)).cons (hF989.get (t := 13) (v := (.bool false)) rfl)).cons (hF989.get (t := 8) (v := (.pointer (some ⟨g110, 0, none⟩))) rfl)).cons (hF989.get (t := 7) (v := (.pointer (some ⟨g136, 0, none⟩))) rfl)).cons (hF989.get (t := 6) (v := (.int .i64 (n : Nat))) rfl)).cons (hF989.get (t := 5) (v := (.slice A25 ((digsOf s).length) c26)) rfl)).cons (hF989.get (t := 4) (v := (.bool false)) rfl)).cons (hF989.get (t := 3) (v := (.pointer (some ⟨g2, 0, none⟩))) rfl)).cons (hF989.get (t := 1) (v := (.agg (byteVals d).toArray)) rfl)).cons (hF989.get (t := 0) (v := (.slice A s.length c)) rfl)), (((Ext.refl w70).trans hx970).trans hx987), b992, (by omega), b993, (by omega), b994, (by omega), (by omega), (by omega), (by omega)⟩
    refine anyg_have (n1 := 4) (L1 := #[true, true, true, true, true, true, false, false, true, false, false]) (fun a' W => ∃ (g204 : Nat) (g92 : Nat), Sl 68 [(0, (.slice A s.length c)), (1, (.agg (byteVals d).toArray)), (3, (.pointer (some ⟨g2, 0, none⟩))), (4, (.bool false)), (5, (.slice A25 ((digsOf s).length) c26)), (6, (.int .i64 (n : Nat))), (8, (.pointer (some ⟨g204, 0, none⟩))), (13, (.bool false)), (19, (.bool (decide (((n : Nat) : Int) ≤ (((digsOf s).length : Nat) : Int))))), (25, (.agg (byteVals (treeD ((digsOf s).take n))).toArray)), (27, (.slice (some ⟨g92, 0, none⟩) 1 1))] a' ∧ Ext w70 W ∧ Blk W g92 26 (byteVals (d)) ∧ w70.heap.size ≤ g92 ∧ Blk W g204 26 (byteVals (List.replicate 32 0)) ∧ w70.heap.size ≤ g204 ∧ g92 ≠ g204) ?_ (fun st995 => ?_)
    · skip
      rintro a996 w997 ⟨g204, g92, hF998, hx999, b1000, z1001, b1002, z1003, z1004⟩
      clear hF66
      have z1005 := hx999.size
      have z1006 := b1000.lt
      have z1007 := b1002.lt
      refine anyg_two (i := 6) (k := 7) (by decide +kernel) rfl rfl ?_ ?_
      · skip
        have hf1008 := (Fl.digblk (S := fun b => b = g92) (n := 1) b1000 (All32.sing hd) (by simp [digVals, byteVals]))
        refine o_call hF998 rfl rfl rfl rfl (rn_call (args1 (hF998.get rfl)) rfl (by kernel_rfl)) (tree_at ([d]) _ (n := 1) (v := (.slice (some ⟨g92, 0, none⟩) 1 1)) (All32.sing hd) hf1008 (hG.ext ((((Ext.refl w).trans hx47).trans hx71).trans hx999))) ?_
        rintro _ w1009 ⟨rfl, hx1010⟩
        refine ⟨_, rfl, ?_⟩; intro a1011 hF1012; clear hF998; have z1013 := hx1010.size
        have b1014 : Blk w1009 g2 26 (byteVals d) := (((b51.ext hx71).ext hx999).ext hx1010)
        refine ⟨⟨fun _ _ => ⟨(((Ext.refl w70).trans hx999).trans hx1010), b1014⟩, fun _ => b1014⟩, ?_⟩
        have b1015 : Blk w1009 g92 26 (byteVals (d)) := (b1000.ext hx1010)
        have b1016 : Blk w1009 g204 26 (byteVals (List.replicate 32 0)) := (b1002.ext hx1010)
        exact st918 _ _ ⟨g204, g92, (((((((((((hF1012.nil.cons (hF1012.get (t := 28) (v := (.agg (byteVals (treeD ([d]))).toArray)) rfl)).cons (hF1012.get (t := 25) (v := (.agg (byteVals (treeD ((digsOf s).take n))).toArray)) rfl)).cons (hF1012.get (t := 19) (v := (.bool (decide (((n : Nat) : Int) ≤ (((digsOf s).length : Nat) : Int))))) rfl)).cons (hF1012.get (t := 13) (v := (.bool false)) rfl)).cons (hF1012.get (t := 8) (v := (.pointer (some ⟨g204, 0, none⟩))) rfl)).cons (hF1012.get (t := 6) (v := (.int .i64 (n : Nat))) rfl)).cons (hF1012.get (t := 5) (v := (.slice A25 ((digsOf s).length) c26)) rfl)).cons (hF1012.get (t := 4) (v := (.bool false)) rfl)).cons (hF1012.get (t := 3) (v := (.pointer (some ⟨g2, 0, none⟩))) rfl)).cons (hF1012.get (t := 1) (v := (.agg (byteVals d).toArray)) rfl)).cons (hF1012.get (t := 0) (v := (.slice A s.length c)) rfl)), (((Ext.refl w70).trans hx999).trans hx1010), b1015, (by omega), b1016, (by omega), (by omega)⟩
      · skip
        refine o_new (fun g => (.pointer (some ⟨g, 0, none⟩))) (byteVals (List.replicate 32 0)) 26 hF998 rfl rfl rfl rfl (by kernel_rfl) ?_
        intro g1017 w1018 a1023 hF1024 z1021 z1022 b1019 hx1020; clear hF998
        have b1025 : Blk w1018 g2 26 (byteVals d) := (((b51.ext hx71).ext hx999).ext hx1020)
        refine ⟨⟨fun _ _ => ⟨(((Ext.refl w70).trans hx999).trans hx1020), b1025⟩, fun _ => b1025⟩, ?_⟩
        have b1026 : Blk w1018 g92 26 (byteVals (d)) := (b1000.ext hx1020)
        have b1027 : Blk w1018 g204 26 (byteVals (List.replicate 32 0)) := (b1002.ext hx1020)
        exact st866 _ _ ⟨g1017, g204, g92, ((((((((((((hF1024.nil.cons (hF1024.get (t := 27) (v := (.slice (some ⟨g92, 0, none⟩) 1 1)) rfl)).cons (hF1024.get (t := 25) (v := (.agg (byteVals (treeD ((digsOf s).take n))).toArray)) rfl)).cons (hF1024.get (t := 19) (v := (.bool (decide (((n : Nat) : Int) ≤ (((digsOf s).length : Nat) : Int))))) rfl)).cons (hF1024.get (t := 13) (v := (.bool false)) rfl)).cons (hF1024.get (t := 8) (v := (.pointer (some ⟨g204, 0, none⟩))) rfl)).cons (hF1024.get (t := 7) (v := (.pointer (some ⟨g1017, 0, none⟩))) rfl)).cons (hF1024.get (t := 6) (v := (.int .i64 (n : Nat))) rfl)).cons (hF1024.get (t := 5) (v := (.slice A25 ((digsOf s).length) c26)) rfl)).cons (hF1024.get (t := 4) (v := (.bool false)) rfl)).cons (hF1024.get (t := 3) (v := (.pointer (some ⟨g2, 0, none⟩))) rfl)).cons (hF1024.get (t := 1) (v := (.agg (byteVals d).toArray)) rfl)).cons (hF1024.get (t := 0) (v := (.slice A s.length c)) rfl)), (((Ext.refl w70).trans hx999).trans hx1020), b1026, (by omega), b1019, (by omega), b1027, (by omega), (by omega), (by omega), (by omega)⟩
    refine anyg_have (n1 := 4) (L1 := #[true, true, true, true, true, true, false, true, false, false, false]) (fun a' W => ∃ (g195 : Nat) (g92 : Nat), Sl 68 [(0, (.slice A s.length c)), (1, (.agg (byteVals d).toArray)), (3, (.pointer (some ⟨g2, 0, none⟩))), (4, (.bool false)), (5, (.slice A25 ((digsOf s).length) c26)), (6, (.int .i64 (n : Nat))), (7, (.pointer (some ⟨g195, 0, none⟩))), (13, (.bool false)), (19, (.bool (decide (((n : Nat) : Int) ≤ (((digsOf s).length : Nat) : Int))))), (25, (.agg (byteVals (treeD ((digsOf s).take n))).toArray)), (27, (.slice (some ⟨g92, 0, none⟩) 1 1))] a' ∧ Ext w70 W ∧ Blk W g92 26 (byteVals (d)) ∧ w70.heap.size ≤ g92 ∧ Blk W g195 26 (byteVals (List.replicate 32 0)) ∧ w70.heap.size ≤ g195 ∧ g92 ≠ g195) ?_ (fun st1028 => ?_)
    · skip
      rintro a1029 w1030 ⟨g195, g92, hF1031, hx1032, b1033, z1034, b1035, z1036, z1037⟩
      clear hF66
      have z1038 := hx1032.size
      have z1039 := b1033.lt
      have z1040 := b1035.lt
      refine anyg_two (i := 6) (k := 8) (by decide +kernel) rfl rfl ?_ ?_
      · skip
        have hf1041 := (Fl.digblk (S := fun b => b = g92) (n := 1) b1033 (All32.sing hd) (by simp [digVals, byteVals]))
        refine o_call hF1031 rfl rfl rfl rfl (rn_call (args1 (hF1031.get rfl)) rfl (by kernel_rfl)) (tree_at ([d]) _ (n := 1) (v := (.slice (some ⟨g92, 0, none⟩) 1 1)) (All32.sing hd) hf1041 (hG.ext ((((Ext.refl w).trans hx47).trans hx71).trans hx1032))) ?_
        rintro _ w1042 ⟨rfl, hx1043⟩
        refine ⟨_, rfl, ?_⟩; intro a1044 hF1045; clear hF1031; have z1046 := hx1043.size
        have b1047 : Blk w1042 g2 26 (byteVals d) := (((b51.ext hx71).ext hx1032).ext hx1043)
        refine ⟨⟨fun _ _ => ⟨(((Ext.refl w70).trans hx1032).trans hx1043), b1047⟩, fun _ => b1047⟩, ?_⟩
        have b1048 : Blk w1042 g92 26 (byteVals (d)) := (b1033.ext hx1043)
        have b1049 : Blk w1042 g195 26 (byteVals (List.replicate 32 0)) := (b1035.ext hx1043)
        exact st894 _ _ ⟨g195, g92, (((((((((((hF1045.nil.cons (hF1045.get (t := 28) (v := (.agg (byteVals (treeD ([d]))).toArray)) rfl)).cons (hF1045.get (t := 25) (v := (.agg (byteVals (treeD ((digsOf s).take n))).toArray)) rfl)).cons (hF1045.get (t := 19) (v := (.bool (decide (((n : Nat) : Int) ≤ (((digsOf s).length : Nat) : Int))))) rfl)).cons (hF1045.get (t := 13) (v := (.bool false)) rfl)).cons (hF1045.get (t := 7) (v := (.pointer (some ⟨g195, 0, none⟩))) rfl)).cons (hF1045.get (t := 6) (v := (.int .i64 (n : Nat))) rfl)).cons (hF1045.get (t := 5) (v := (.slice A25 ((digsOf s).length) c26)) rfl)).cons (hF1045.get (t := 4) (v := (.bool false)) rfl)).cons (hF1045.get (t := 3) (v := (.pointer (some ⟨g2, 0, none⟩))) rfl)).cons (hF1045.get (t := 1) (v := (.agg (byteVals d).toArray)) rfl)).cons (hF1045.get (t := 0) (v := (.slice A s.length c)) rfl)), (((Ext.refl w70).trans hx1032).trans hx1043), b1048, (by omega), b1049, (by omega), (by omega)⟩
      · skip
        refine o_new (fun g => (.pointer (some ⟨g, 0, none⟩))) (byteVals (List.replicate 32 0)) 26 hF1031 rfl rfl rfl rfl (by kernel_rfl) ?_
        intro g1050 w1051 a1056 hF1057 z1054 z1055 b1052 hx1053; clear hF1031
        have b1058 : Blk w1051 g2 26 (byteVals d) := (((b51.ext hx71).ext hx1032).ext hx1053)
        refine ⟨⟨fun _ _ => ⟨(((Ext.refl w70).trans hx1032).trans hx1053), b1058⟩, fun _ => b1058⟩, ?_⟩
        have b1059 : Blk w1051 g92 26 (byteVals (d)) := (b1033.ext hx1053)
        have b1060 : Blk w1051 g195 26 (byteVals (List.replicate 32 0)) := (b1035.ext hx1053)
        exact st866 _ _ ⟨g195, g1050, g92, ((((((((((((hF1057.nil.cons (hF1057.get (t := 27) (v := (.slice (some ⟨g92, 0, none⟩) 1 1)) rfl)).cons (hF1057.get (t := 25) (v := (.agg (byteVals (treeD ((digsOf s).take n))).toArray)) rfl)).cons (hF1057.get (t := 19) (v := (.bool (decide (((n : Nat) : Int) ≤ (((digsOf s).length : Nat) : Int))))) rfl)).cons (hF1057.get (t := 13) (v := (.bool false)) rfl)).cons (hF1057.get (t := 8) (v := (.pointer (some ⟨g1050, 0, none⟩))) rfl)).cons (hF1057.get (t := 7) (v := (.pointer (some ⟨g195, 0, none⟩))) rfl)).cons (hF1057.get (t := 6) (v := (.int .i64 (n : Nat))) rfl)).cons (hF1057.get (t := 5) (v := (.slice A25 ((digsOf s).length) c26)) rfl)).cons (hF1057.get (t := 4) (v := (.bool false)) rfl)).cons (hF1057.get (t := 3) (v := (.pointer (some ⟨g2, 0, none⟩))) rfl)).cons (hF1057.get (t := 1) (v := (.agg (byteVals d).toArray)) rfl)).cons (hF1057.get (t := 0) (v := (.slice A s.length c)) rfl)), (((Ext.refl w70).trans hx1032).trans hx1053), b1059, (by omega), b1060, (by omega), b1052, (by omega), (by omega), (by omega), (by omega)⟩
    refine anyg_have (n1 := 5) (L1 := #[true, true, true, false, true, false, false, true, true, false, false]) (fun a' W => ∃ (g136 : Nat) (g110 : Nat), Sl 68 [(0, (.slice A s.length c)), (1, (.agg (byteVals d).toArray)), (3, (.pointer (some ⟨g2, 0, none⟩))), (4, (.bool false)), (5, (.slice A25 ((digsOf s).length) c26)), (6, (.int .i64 (n : Nat))), (7, (.pointer (some ⟨g136, 0, none⟩))), (8, (.pointer (some ⟨g110, 0, none⟩))), (13, (.bool false)), (19, (.bool (decide (((n : Nat) : Int) ≤ (((digsOf s).length : Nat) : Int))))), (24, (.slice A25 n c26)), (26, (.agg (byteVals d).toArray))] a' ∧ Ext w70 W ∧ Blk W g136 26 (byteVals (List.replicate 32 0)) ∧ w70.heap.size ≤ g136 ∧ Blk W g110 26 (byteVals (List.replicate 32 0)) ∧ w70.heap.size ≤ g110 ∧ g136 ≠ g110) ?_ (fun st1061 => ?_)
    · skip
      rintro a1062 w1063 ⟨g136, g110, hF1064, hx1065, b1066, z1067, b1068, z1069, z1070⟩
      clear hF66
      have z1071 := hx1065.size
      have z1072 := b1066.lt
      have z1073 := b1068.lt
      refine anyg_two (i := 3) (k := 5) (by decide +kernel) rfl rfl ?_ ?_
      · skip
        have d1074 := ((hf52.ext hx71).ext hx1065)
        have hf1075 := (Fl.take_eq (j := n) d1074 (by omega) (digVals_take (digsOf_32 _) _))
        refine o_call hF1064 rfl rfl rfl rfl (rn_call (args1 (hF1064.get rfl)) rfl (by kernel_rfl)) (tree_at ((digsOf s).take n) _ (n := n) (v := (.slice A25 n c26)) (All32.take (digsOf_32 _) _) hf1075 (hG.ext ((((Ext.refl w).trans hx47).trans hx71).trans hx1065))) ?_
        rintro _ w1076 ⟨rfl, hx1077⟩
        refine ⟨_, rfl, ?_⟩; intro a1078 hF1079; clear hF1064; have z1080 := hx1077.size
        have b1081 : Blk w1076 g2 26 (byteVals d) := (((b51.ext hx71).ext hx1065).ext hx1077)
        refine ⟨⟨fun _ _ => ⟨(((Ext.refl w70).trans hx1065).trans hx1077), b1081⟩, fun _ => b1081⟩, ?_⟩
        have b1082 : Blk w1076 g136 26 (byteVals (List.replicate 32 0)) := (b1066.ext hx1077)
        have b1083 : Blk w1076 g110 26 (byteVals (List.replicate 32 0)) := (b1068.ext hx1077)
        exact st942 _ _ ⟨g136, g110, ((((((((((((hF1079.nil.cons (hF1079.get (t := 26) (v := (.agg (byteVals d).toArray)) rfl)).cons (hF1079.get (t := 25) (v := (.agg (byteVals (treeD ((digsOf s).take n))).toArray)) rfl)).cons (hF1079.get (t := 19) (v := (.bool (decide (((n : Nat) : Int) ≤ (((digsOf s).length : Nat) : Int))))) rfl)).cons (hF1079.get (t := 13) (v := (.bool false)) rfl)).cons (hF1079.get (t := 8) (v := (.pointer (some ⟨g110, 0, none⟩))) rfl)).cons (hF1079.get (t := 7) (v := (.pointer (some ⟨g136, 0, none⟩))) rfl)).cons (hF1079.get (t := 6) (v := (.int .i64 (n : Nat))) rfl)).cons (hF1079.get (t := 5) (v := (.slice A25 ((digsOf s).length) c26)) rfl)).cons (hF1079.get (t := 4) (v := (.bool false)) rfl)).cons (hF1079.get (t := 3) (v := (.pointer (some ⟨g2, 0, none⟩))) rfl)).cons (hF1079.get (t := 1) (v := (.agg (byteVals d).toArray)) rfl)).cons (hF1079.get (t := 0) (v := (.slice A s.length c)) rfl)), (((Ext.refl w70).trans hx1065).trans hx1077), b1082, (by omega), b1083, (by omega), (by omega)⟩
      · skip
        refine o_new (fun g => (.slice (some ⟨g, 0, none⟩) 1 1)) (byteVals (d)) 26 hF1064 rfl rfl rfl rfl (rn_buildSlice (parts1 (hF1064.get rfl)) (build_wholeE (vs := [(.agg (byteVals d).toArray)]) El30 rfl rfl (fun v hv => by rw [List.mem_singleton.1 hv]; exact (byteVals_len hd)) (by decide) (by decide) (by simp [Value.cells, byteVals]))) ?_
        intro g1084 w1085 a1090 hF1091 z1088 z1089 b1086 hx1087; clear hF1064
        have b1092 : Blk w1085 g2 26 (byteVals d) := (((b51.ext hx71).ext hx1065).ext hx1087)
        refine ⟨⟨fun _ _ => ⟨(((Ext.refl w70).trans hx1065).trans hx1087), b1092⟩, fun _ => b1092⟩, ?_⟩
        have b1093 : Blk w1085 g136 26 (byteVals (List.replicate 32 0)) := (b1066.ext hx1087)
        have b1094 : Blk w1085 g110 26 (byteVals (List.replicate 32 0)) := (b1068.ext hx1087)
        exact st966 _ _ ⟨g136, g110, g1084, ((((((((((((hF1091.nil.cons (hF1091.get (t := 27) (v := (.slice (some ⟨g1084, 0, none⟩) 1 1)) rfl)).cons (hF1091.get (t := 24) (v := (.slice A25 n c26)) rfl)).cons (hF1091.get (t := 19) (v := (.bool (decide (((n : Nat) : Int) ≤ (((digsOf s).length : Nat) : Int))))) rfl)).cons (hF1091.get (t := 13) (v := (.bool false)) rfl)).cons (hF1091.get (t := 8) (v := (.pointer (some ⟨g110, 0, none⟩))) rfl)).cons (hF1091.get (t := 7) (v := (.pointer (some ⟨g136, 0, none⟩))) rfl)).cons (hF1091.get (t := 6) (v := (.int .i64 (n : Nat))) rfl)).cons (hF1091.get (t := 5) (v := (.slice A25 ((digsOf s).length) c26)) rfl)).cons (hF1091.get (t := 4) (v := (.bool false)) rfl)).cons (hF1091.get (t := 3) (v := (.pointer (some ⟨g2, 0, none⟩))) rfl)).cons (hF1091.get (t := 1) (v := (.agg (byteVals d).toArray)) rfl)).cons (hF1091.get (t := 0) (v := (.slice A s.length c)) rfl)), (((Ext.refl w70).trans hx1065).trans hx1087), b1086, (by omega), b1093, (by omega), b1094, (by omega), (by omega), (by omega), (by omega)⟩
    refine anyg_have (n1 := 5) (L1 := #[true, true, true, true, true, true, false, false, false, false, false]) (fun a' W => ∃ (g92 : Nat), Sl 68 [(0, (.slice A s.length c)), (1, (.agg (byteVals d).toArray)), (3, (.pointer (some ⟨g2, 0, none⟩))), (4, (.bool false)), (5, (.slice A25 ((digsOf s).length) c26)), (6, (.int .i64 (n : Nat))), (13, (.bool false)), (19, (.bool (decide (((n : Nat) : Int) ≤ (((digsOf s).length : Nat) : Int))))), (25, (.agg (byteVals (treeD ((digsOf s).take n))).toArray)), (27, (.slice (some ⟨g92, 0, none⟩) 1 1))] a' ∧ Ext w70 W ∧ Blk W g92 26 (byteVals (d)) ∧ w70.heap.size ≤ g92) ?_ (fun st1095 => ?_)
    · skip
      rintro a1096 w1097 ⟨g92, hF1098, hx1099, b1100, z1101⟩
      clear hF66
      have z1102 := hx1099.size
      have z1103 := b1100.lt
      refine anyg_three (i := 6) (k := 7) (l := 8) (by decide +kernel) rfl rfl rfl ?_ ?_ ?_
      · skip
        have hf1104 := (Fl.digblk (S := fun b => b = g92) (n := 1) b1100 (All32.sing hd) (by simp [digVals, byteVals]))
        refine o_call hF1098 rfl rfl rfl rfl (rn_call (args1 (hF1098.get rfl)) rfl (by kernel_rfl)) (tree_at ([d]) _ (n := 1) (v := (.slice (some ⟨g92, 0, none⟩) 1 1)) (All32.sing hd) hf1104 (hG.ext ((((Ext.refl w).trans hx47).trans hx71).trans hx1099))) ?_
        rintro _ w1105 ⟨rfl, hx1106⟩
        refine ⟨_, rfl, ?_⟩; intro a1107 hF1108; clear hF1098; have z1109 := hx1106.size
        have b1110 : Blk w1105 g2 26 (byteVals d) := (((b51.ext hx71).ext hx1099).ext hx1106)
        refine ⟨⟨fun _ _ => ⟨(((Ext.refl w70).trans hx1099).trans hx1106), b1110⟩, fun _ => b1110⟩, ?_⟩
        refine anyg_two (i := 7) (k := 8) (by decide +kernel) rfl rfl ?_ ?_
        · skip
          refine o_new (fun g => (.pointer (some ⟨g, 0, none⟩))) (byteVals (List.replicate 32 0)) 26 hF1108 rfl rfl rfl rfl (by kernel_rfl) ?_
          intro g1111 w1112 a1117 hF1118 z1115 z1116 b1113 hx1114; clear hF1108
          have b1119 : Blk w1112 g2 26 (byteVals d) := (b1110.ext hx1114)
          refine ⟨⟨fun _ _ => ⟨((((Ext.refl w70).trans hx1099).trans hx1106).trans hx1114), b1119⟩, fun _ => b1119⟩, ?_⟩
          have b1120 : Blk w1112 g92 26 (byteVals (d)) := ((b1100.ext hx1106).ext hx1114)
          exact st894 _ _ ⟨g1111, g92, (((((((((((hF1118.nil.cons (hF1118.get (t := 28) (v := (.agg (byteVals (treeD ([d]))).toArray)) rfl)).cons (hF1118.get (t := 25) (v := (.agg (byteVals (treeD ((digsOf s).take n))).toArray)) rfl)).cons (hF1118.get (t := 19) (v := (.bool (decide (((n : Nat) : Int) ≤ (((digsOf s).length : Nat) : Int))))) rfl)).cons (hF1118.get (t := 13) (v := (.bool false)) rfl)).cons (hF1118.get (t := 7) (v := (.pointer (some ⟨g1111, 0, none⟩))) rfl)).cons (hF1118.get (t := 6) (v := (.int .i64 (n : Nat))) rfl)).cons (hF1118.get (t := 5) (v := (.slice A25 ((digsOf s).length) c26)) rfl)).cons (hF1118.get (t := 4) (v := (.bool false)) rfl)).cons (hF1118.get (t := 3) (v := (.pointer (some ⟨g2, 0, none⟩))) rfl)).cons (hF1118.get (t := 1) (v := (.agg (byteVals d).toArray)) rfl)).cons (hF1118.get (t := 0) (v := (.slice A s.length c)) rfl)), ((((Ext.refl w70).trans hx1099).trans hx1106).trans hx1114), b1120, (by omega), b1113, (by omega), (by omega)⟩
        · skip
          refine o_new (fun g => (.pointer (some ⟨g, 0, none⟩))) (byteVals (List.replicate 32 0)) 26 hF1108 rfl rfl rfl rfl (by kernel_rfl) ?_
          intro g1121 w1122 a1127 hF1128 z1125 z1126 b1123 hx1124; clear hF1108
          have b1129 : Blk w1122 g2 26 (byteVals d) := (b1110.ext hx1124)
          refine ⟨⟨fun _ _ => ⟨((((Ext.refl w70).trans hx1099).trans hx1106).trans hx1124), b1129⟩, fun _ => b1129⟩, ?_⟩
          have b1130 : Blk w1122 g92 26 (byteVals (d)) := ((b1100.ext hx1106).ext hx1124)
          exact st918 _ _ ⟨g1121, g92, (((((((((((hF1128.nil.cons (hF1128.get (t := 28) (v := (.agg (byteVals (treeD ([d]))).toArray)) rfl)).cons (hF1128.get (t := 25) (v := (.agg (byteVals (treeD ((digsOf s).take n))).toArray)) rfl)).cons (hF1128.get (t := 19) (v := (.bool (decide (((n : Nat) : Int) ≤ (((digsOf s).length : Nat) : Int))))) rfl)).cons (hF1128.get (t := 13) (v := (.bool false)) rfl)).cons (hF1128.get (t := 8) (v := (.pointer (some ⟨g1121, 0, none⟩))) rfl)).cons (hF1128.get (t := 6) (v := (.int .i64 (n : Nat))) rfl)).cons (hF1128.get (t := 5) (v := (.slice A25 ((digsOf s).length) c26)) rfl)).cons (hF1128.get (t := 4) (v := (.bool false)) rfl)).cons (hF1128.get (t := 3) (v := (.pointer (some ⟨g2, 0, none⟩))) rfl)).cons (hF1128.get (t := 1) (v := (.agg (byteVals d).toArray)) rfl)).cons (hF1128.get (t := 0) (v := (.slice A s.length c)) rfl)), ((((Ext.refl w70).trans hx1099).trans hx1106).trans hx1124), b1130, (by omega), b1123, (by omega), (by omega)⟩
      · skip
        refine o_new (fun g => (.pointer (some ⟨g, 0, none⟩))) (byteVals (List.replicate 32 0)) 26 hF1098 rfl rfl rfl rfl (by kernel_rfl) ?_
        intro g1131 w1132 a1137 hF1138 z1135 z1136 b1133 hx1134; clear hF1098
        have b1139 : Blk w1132 g2 26 (byteVals d) := (((b51.ext hx71).ext hx1099).ext hx1134)
        refine ⟨⟨fun _ _ => ⟨(((Ext.refl w70).trans hx1099).trans hx1134), b1139⟩, fun _ => b1139⟩, ?_⟩
        have b1140 : Blk w1132 g92 26 (byteVals (d)) := (b1100.ext hx1134)
        exact st1028 _ _ ⟨g1131, g92, (((((((((((hF1138.nil.cons (hF1138.get (t := 27) (v := (.slice (some ⟨g92, 0, none⟩) 1 1)) rfl)).cons (hF1138.get (t := 25) (v := (.agg (byteVals (treeD ((digsOf s).take n))).toArray)) rfl)).cons (hF1138.get (t := 19) (v := (.bool (decide (((n : Nat) : Int) ≤ (((digsOf s).length : Nat) : Int))))) rfl)).cons (hF1138.get (t := 13) (v := (.bool false)) rfl)).cons (hF1138.get (t := 7) (v := (.pointer (some ⟨g1131, 0, none⟩))) rfl)).cons (hF1138.get (t := 6) (v := (.int .i64 (n : Nat))) rfl)).cons (hF1138.get (t := 5) (v := (.slice A25 ((digsOf s).length) c26)) rfl)).cons (hF1138.get (t := 4) (v := (.bool false)) rfl)).cons (hF1138.get (t := 3) (v := (.pointer (some ⟨g2, 0, none⟩))) rfl)).cons (hF1138.get (t := 1) (v := (.agg (byteVals d).toArray)) rfl)).cons (hF1138.get (t := 0) (v := (.slice A s.length c)) rfl)), (((Ext.refl w70).trans hx1099).trans hx1134), b1140, (by omega), b1133, (by omega), (by omega)⟩
      · skip
        refine o_new (fun g => (.pointer (some ⟨g, 0, none⟩))) (byteVals (List.replicate 32 0)) 26 hF1098 rfl rfl rfl rfl (by kernel_rfl) ?_
        intro g1141 w1142 a1147 hF1148 z1145 z1146 b1143 hx1144; clear hF1098
        have b1149 : Blk w1142 g2 26 (byteVals d) := (((b51.ext hx71).ext hx1099).ext hx1144)
        refine ⟨⟨fun _ _ => ⟨(((Ext.refl w70).trans hx1099).trans hx1144), b1149⟩, fun _ => b1149⟩, ?_⟩
        have b1150 : Blk w1142 g92 26 (byteVals (d)) := (b1100.ext hx1144)
        exact st995 _ _ ⟨g1141, g92, (((((((((((hF1148.nil.cons (hF1148.get (t := 27) (v := (.slice (some ⟨g92, 0, none⟩) 1 1)) rfl)).cons (hF1148.get (t := 25) (v := (.agg (byteVals (treeD ((digsOf s).take n))).toArray)) rfl)).cons (hF1148.get (t := 19) (v := (.bool (decide (((n : Nat) : Int) ≤ (((digsOf s).length : Nat) : Int))))) rfl)).cons (hF1148.get (t := 13) (v := (.bool false)) rfl)).cons (hF1148.get (t := 8) (v := (.pointer (some ⟨g1141, 0, none⟩))) rfl)).cons (hF1148.get (t := 6) (v := (.int .i64 (n : Nat))) rfl)).cons (hF1148.get (t := 5) (v := (.slice A25 ((digsOf s).length) c26)) rfl)).cons (hF1148.get (t := 4) (v := (.bool false)) rfl)).cons (hF1148.get (t := 3) (v := (.pointer (some ⟨g2, 0, none⟩))) rfl)).cons (hF1148.get (t := 1) (v := (.agg (byteVals d).toArray)) rfl)).cons (hF1148.get (t := 0) (v := (.slice A s.length c)) rfl)), (((Ext.refl w70).trans hx1099).trans hx1144), b1150, (by omega), b1143, (by omega), (by omega)⟩
    refine anyg_have (n1 := 5) (L1 := #[true, true, true, false, true, true, false, false, true, false, false]) (fun a' W => ∃ (g110 : Nat) (g127 : Nat), Sl 68 [(0, (.slice A s.length c)), (1, (.agg (byteVals d).toArray)), (3, (.pointer (some ⟨g2, 0, none⟩))), (4, (.bool false)), (5, (.slice A25 ((digsOf s).length) c26)), (6, (.int .i64 (n : Nat))), (8, (.pointer (some ⟨g110, 0, none⟩))), (13, (.bool false)), (19, (.bool (decide (((n : Nat) : Int) ≤ (((digsOf s).length : Nat) : Int))))), (24, (.slice A25 n c26)), (27, (.slice (some ⟨g127, 0, none⟩) 1 1))] a' ∧ Ext w70 W ∧ Blk W g127 26 (byteVals (d)) ∧ w70.heap.size ≤ g127 ∧ Blk W g110 26 (byteVals (List.replicate 32 0)) ∧ w70.heap.size ≤ g110 ∧ g127 ≠ g110) ?_ (fun st1151 => ?_)
    · skip
      rintro a1152 w1153 ⟨g110, g127, hF1154, hx1155, b1156, z1157, b1158, z1159, z1160⟩
      clear hF66
      have z1161 := hx1155.size
      have z1162 := b1156.lt
      have z1163 := b1158.lt
      refine anyg_two (i := 3) (k := 7) (by decide +kernel) rfl rfl ?_ ?_
      · skip
        have d1164 := ((hf52.ext hx71).ext hx1155)
        have hf1165 := (Fl.take_eq (j := n) d1164 (by omega) (digVals_take (digsOf_32 _) _))
        refine o_call hF1154 rfl rfl rfl rfl (rn_call (args1 (hF1154.get rfl)) rfl (by kernel_rfl)) (tree_at ((digsOf s).take n) _ (n := n) (v := (.slice A25 n c26)) (All32.take (digsOf_32 _) _) hf1165 (hG.ext ((((Ext.refl w).trans hx47).trans hx71).trans hx1155))) ?_
        rintro _ w1166 ⟨rfl, hx1167⟩
        refine ⟨_, rfl, ?_⟩; intro a1168 hF1169; clear hF1154; have z1170 := hx1167.size
        have b1171 : Blk w1166 g2 26 (byteVals d) := (((b51.ext hx71).ext hx1155).ext hx1167)
        refine ⟨⟨fun _ _ => ⟨(((Ext.refl w70).trans hx1155).trans hx1167), b1171⟩, fun _ => b1171⟩, ?_⟩
        have b1172 : Blk w1166 g127 26 (byteVals (d)) := (b1156.ext hx1167)
        have b1173 : Blk w1166 g110 26 (byteVals (List.replicate 32 0)) := (b1158.ext hx1167)
        exact st995 _ _ ⟨g110, g127, (((((((((((hF1169.nil.cons (hF1169.get (t := 27) (v := (.slice (some ⟨g127, 0, none⟩) 1 1)) rfl)).cons (hF1169.get (t := 25) (v := (.agg (byteVals (treeD ((digsOf s).take n))).toArray)) rfl)).cons (hF1169.get (t := 19) (v := (.bool (decide (((n : Nat) : Int) ≤ (((digsOf s).length : Nat) : Int))))) rfl)).cons (hF1169.get (t := 13) (v := (.bool false)) rfl)).cons (hF1169.get (t := 8) (v := (.pointer (some ⟨g110, 0, none⟩))) rfl)).cons (hF1169.get (t := 6) (v := (.int .i64 (n : Nat))) rfl)).cons (hF1169.get (t := 5) (v := (.slice A25 ((digsOf s).length) c26)) rfl)).cons (hF1169.get (t := 4) (v := (.bool false)) rfl)).cons (hF1169.get (t := 3) (v := (.pointer (some ⟨g2, 0, none⟩))) rfl)).cons (hF1169.get (t := 1) (v := (.agg (byteVals d).toArray)) rfl)).cons (hF1169.get (t := 0) (v := (.slice A s.length c)) rfl)), (((Ext.refl w70).trans hx1155).trans hx1167), b1172, (by omega), b1173, (by omega), (by omega)⟩
      · skip
        refine o_new (fun g => (.pointer (some ⟨g, 0, none⟩))) (byteVals (List.replicate 32 0)) 26 hF1154 rfl rfl rfl rfl (by kernel_rfl) ?_
        intro g1174 w1175 a1180 hF1181 z1178 z1179 b1176 hx1177; clear hF1154
        have b1182 : Blk w1175 g2 26 (byteVals d) := (((b51.ext hx71).ext hx1155).ext hx1177)
        refine ⟨⟨fun _ _ => ⟨(((Ext.refl w70).trans hx1155).trans hx1177), b1182⟩, fun _ => b1182⟩, ?_⟩
        have b1183 : Blk w1175 g127 26 (byteVals (d)) := (b1156.ext hx1177)
        have b1184 : Blk w1175 g110 26 (byteVals (List.replicate 32 0)) := (b1158.ext hx1177)
        exact st966 _ _ ⟨g1174, g110, g127, ((((((((((((hF1181.nil.cons (hF1181.get (t := 27) (v := (.slice (some ⟨g127, 0, none⟩) 1 1)) rfl)).cons (hF1181.get (t := 24) (v := (.slice A25 n c26)) rfl)).cons (hF1181.get (t := 19) (v := (.bool (decide (((n : Nat) : Int) ≤ (((digsOf s).length : Nat) : Int))))) rfl)).cons (hF1181.get (t := 13) (v := (.bool false)) rfl)).cons (hF1181.get (t := 8) (v := (.pointer (some ⟨g110, 0, none⟩))) rfl)).cons (hF1181.get (t := 7) (v := (.pointer (some ⟨g1174, 0, none⟩))) rfl)).cons (hF1181.get (t := 6) (v := (.int .i64 (n : Nat))) rfl)).cons (hF1181.get (t := 5) (v := (.slice A25 ((digsOf s).length) c26)) rfl)).cons (hF1181.get (t := 4) (v := (.bool false)) rfl)).cons (hF1181.get (t := 3) (v := (.pointer (some ⟨g2, 0, none⟩))) rfl)).cons (hF1181.get (t := 1) (v := (.agg (byteVals d).toArray)) rfl)).cons (hF1181.get (t := 0) (v := (.slice A s.length c)) rfl)), (((Ext.refl w70).trans hx1155).trans hx1177), b1183, (by omega), b1176, (by omega), b1184, (by omega), (by omega), (by omega), (by omega)⟩
    refine anyg_have (n1 := 5) (L1 := #[true, true, true, true, true, false, false, true, false, false, false]) (fun a' W => ∃ (g101 : Nat), Sl 68 [(0, (.slice A s.length c)), (1, (.agg (byteVals d).toArray)), (3, (.pointer (some ⟨g2, 0, none⟩))), (4, (.bool false)), (5, (.slice A25 ((digsOf s).length) c26)), (6, (.int .i64 (n : Nat))), (7, (.pointer (some ⟨g101, 0, none⟩))), (13, (.bool false)), (19, (.bool (decide (((n : Nat) : Int) ≤ (((digsOf s).length : Nat) : Int))))), (25, (.agg (byteVals (treeD ((digsOf s).take n))).toArray)), (26, (.agg (byteVals d).toArray))] a' ∧ Ext w70 W ∧ Blk W g101 26 (byteVals (List.replicate 32 0)) ∧ w70.heap.size ≤ g101) ?_ (fun st1185 => ?_)
    · skip
      rintro a1186 w1187 ⟨g101, hF1188, hx1189, b1190, z1191⟩
      clear hF66
      have z1192 := hx1189.size
      have z1193 := b1190.lt
      refine anyg_two (i := 5) (k := 8) (by decide +kernel) rfl rfl ?_ ?_
      · skip
        refine o_new (fun g => (.slice (some ⟨g, 0, none⟩) 1 1)) (byteVals (d)) 26 hF1188 rfl rfl rfl rfl (rn_buildSlice (parts1 (hF1188.get rfl)) (build_wholeE (vs := [(.agg (byteVals d).toArray)]) El30 rfl rfl (fun v hv => by rw [List.mem_singleton.1 hv]; exact (byteVals_len hd)) (by decide) (by decide) (by simp [Value.cells, byteVals]))) ?_
        intro g1194 w1195 a1200 hF1201 z1198 z1199 b1196 hx1197; clear hF1188
        have b1202 : Blk w1195 g2 26 (byteVals d) := (((b51.ext hx71).ext hx1189).ext hx1197)
        refine ⟨⟨fun _ _ => ⟨(((Ext.refl w70).trans hx1189).trans hx1197), b1202⟩, fun _ => b1202⟩, ?_⟩
        have b1203 : Blk w1195 g101 26 (byteVals (List.replicate 32 0)) := (b1190.ext hx1197)
        exact st1028 _ _ ⟨g101, g1194, (((((((((((hF1201.nil.cons (hF1201.get (t := 27) (v := (.slice (some ⟨g1194, 0, none⟩) 1 1)) rfl)).cons (hF1201.get (t := 25) (v := (.agg (byteVals (treeD ((digsOf s).take n))).toArray)) rfl)).cons (hF1201.get (t := 19) (v := (.bool (decide (((n : Nat) : Int) ≤ (((digsOf s).length : Nat) : Int))))) rfl)).cons (hF1201.get (t := 13) (v := (.bool false)) rfl)).cons (hF1201.get (t := 7) (v := (.pointer (some ⟨g101, 0, none⟩))) rfl)).cons (hF1201.get (t := 6) (v := (.int .i64 (n : Nat))) rfl)).cons (hF1201.get (t := 5) (v := (.slice A25 ((digsOf s).length) c26)) rfl)).cons (hF1201.get (t := 4) (v := (.bool false)) rfl)).cons (hF1201.get (t := 3) (v := (.pointer (some ⟨g2, 0, none⟩))) rfl)).cons (hF1201.get (t := 1) (v := (.agg (byteVals d).toArray)) rfl)).cons (hF1201.get (t := 0) (v := (.slice A s.length c)) rfl)), (((Ext.refl w70).trans hx1189).trans hx1197), b1196, (by omega), b1203, (by omega), (by omega)⟩
      · skip
        refine o_new (fun g => (.pointer (some ⟨g, 0, none⟩))) (byteVals (List.replicate 32 0)) 26 hF1188 rfl rfl rfl rfl (by kernel_rfl) ?_
        intro g1204 w1205 a1210 hF1211 z1208 z1209 b1206 hx1207; clear hF1188
        have b1212 : Blk w1205 g2 26 (byteVals d) := (((b51.ext hx71).ext hx1189).ext hx1207)
        refine ⟨⟨fun _ _ => ⟨(((Ext.refl w70).trans hx1189).trans hx1207), b1212⟩, fun _ => b1212⟩, ?_⟩
        have b1213 : Blk w1205 g101 26 (byteVals (List.replicate 32 0)) := (b1190.ext hx1207)
        exact st942 _ _ ⟨g101, g1204, ((((((((((((hF1211.nil.cons (hF1211.get (t := 26) (v := (.agg (byteVals d).toArray)) rfl)).cons (hF1211.get (t := 25) (v := (.agg (byteVals (treeD ((digsOf s).take n))).toArray)) rfl)).cons (hF1211.get (t := 19) (v := (.bool (decide (((n : Nat) : Int) ≤ (((digsOf s).length : Nat) : Int))))) rfl)).cons (hF1211.get (t := 13) (v := (.bool false)) rfl)).cons (hF1211.get (t := 8) (v := (.pointer (some ⟨g1204, 0, none⟩))) rfl)).cons (hF1211.get (t := 7) (v := (.pointer (some ⟨g101, 0, none⟩))) rfl)).cons (hF1211.get (t := 6) (v := (.int .i64 (n : Nat))) rfl)).cons (hF1211.get (t := 5) (v := (.slice A25 ((digsOf s).length) c26)) rfl)).cons (hF1211.get (t := 4) (v := (.bool false)) rfl)).cons (hF1211.get (t := 3) (v := (.pointer (some ⟨g2, 0, none⟩))) rfl)).cons (hF1211.get (t := 1) (v := (.agg (byteVals d).toArray)) rfl)).cons (hF1211.get (t := 0) (v := (.slice A s.length c)) rfl)), (((Ext.refl w70).trans hx1189).trans hx1207), b1213, (by omega), b1206, (by omega), (by omega)⟩
    refine anyg_have (n1 := 5) (L1 := #[true, true, true, true, true, false, false, false, true, false, false]) (fun a' W => ∃ (g110 : Nat), Sl 68 [(0, (.slice A s.length c)), (1, (.agg (byteVals d).toArray)), (3, (.pointer (some ⟨g2, 0, none⟩))), (4, (.bool false)), (5, (.slice A25 ((digsOf s).length) c26)), (6, (.int .i64 (n : Nat))), (8, (.pointer (some ⟨g110, 0, none⟩))), (13, (.bool false)), (19, (.bool (decide (((n : Nat) : Int) ≤ (((digsOf s).length : Nat) : Int))))), (25, (.agg (byteVals (treeD ((digsOf s).take n))).toArray)), (26, (.agg (byteVals d).toArray))] a' ∧ Ext w70 W ∧ Blk W g110 26 (byteVals (List.replicate 32 0)) ∧ w70.heap.size ≤ g110) ?_ (fun st1214 => ?_)
    · skip
      rintro a1215 w1216 ⟨g110, hF1217, hx1218, b1219, z1220⟩
      clear hF66
      have z1221 := hx1218.size
      have z1222 := b1219.lt
      refine anyg_two (i := 5) (k := 7) (by decide +kernel) rfl rfl ?_ ?_
      · skip
        refine o_new (fun g => (.slice (some ⟨g, 0, none⟩) 1 1)) (byteVals (d)) 26 hF1217 rfl rfl rfl rfl (rn_buildSlice (parts1 (hF1217.get rfl)) (build_wholeE (vs := [(.agg (byteVals d).toArray)]) El30 rfl rfl (fun v hv => by rw [List.mem_singleton.1 hv]; exact (byteVals_len hd)) (by decide) (by decide) (by simp [Value.cells, byteVals]))) ?_
        intro g1223 w1224 a1229 hF1230 z1227 z1228 b1225 hx1226; clear hF1217
        have b1231 : Blk w1224 g2 26 (byteVals d) := (((b51.ext hx71).ext hx1218).ext hx1226)
        refine ⟨⟨fun _ _ => ⟨(((Ext.refl w70).trans hx1218).trans hx1226), b1231⟩, fun _ => b1231⟩, ?_⟩
        have b1232 : Blk w1224 g110 26 (byteVals (List.replicate 32 0)) := (b1219.ext hx1226)
        exact st995 _ _ ⟨g110, g1223, (((((((((((hF1230.nil.cons (hF1230.get (t := 27) (v := (.slice (some ⟨g1223, 0, none⟩) 1 1)) rfl)).cons (hF1230.get (t := 25) (v := (.agg (byteVals (treeD ((digsOf s).take n))).toArray)) rfl)).cons (hF1230.get (t := 19) (v := (.bool (decide (((n : Nat) : Int) ≤ (((digsOf s).length : Nat) : Int))))) rfl)).cons (hF1230.get (t := 13) (v := (.bool false)) rfl)).cons (hF1230.get (t := 8) (v := (.pointer (some ⟨g110, 0, none⟩))) rfl)).cons (hF1230.get (t := 6) (v := (.int .i64 (n : Nat))) rfl)).cons (hF1230.get (t := 5) (v := (.slice A25 ((digsOf s).length) c26)) rfl)).cons (hF1230.get (t := 4) (v := (.bool false)) rfl)).cons (hF1230.get (t := 3) (v := (.pointer (some ⟨g2, 0, none⟩))) rfl)).cons (hF1230.get (t := 1) (v := (.agg (byteVals d).toArray)) rfl)).cons (hF1230.get (t := 0) (v := (.slice A s.length c)) rfl)), (((Ext.refl w70).trans hx1218).trans hx1226), b1225, (by omega), b1232, (by omega), (by omega)⟩
      · skip
        refine o_new (fun g => (.pointer (some ⟨g, 0, none⟩))) (byteVals (List.replicate 32 0)) 26 hF1217 rfl rfl rfl rfl (by kernel_rfl) ?_
        intro g1233 w1234 a1239 hF1240 z1237 z1238 b1235 hx1236; clear hF1217
        have b1241 : Blk w1234 g2 26 (byteVals d) := (((b51.ext hx71).ext hx1218).ext hx1236)
        refine ⟨⟨fun _ _ => ⟨(((Ext.refl w70).trans hx1218).trans hx1236), b1241⟩, fun _ => b1241⟩, ?_⟩
        have b1242 : Blk w1234 g110 26 (byteVals (List.replicate 32 0)) := (b1219.ext hx1236)
        exact st942 _ _ ⟨g1233, g110, ((((((((((((hF1240.nil.cons (hF1240.get (t := 26) (v := (.agg (byteVals d).toArray)) rfl)).cons (hF1240.get (t := 25) (v := (.agg (byteVals (treeD ((digsOf s).take n))).toArray)) rfl)).cons (hF1240.get (t := 19) (v := (.bool (decide (((n : Nat) : Int) ≤ (((digsOf s).length : Nat) : Int))))) rfl)).cons (hF1240.get (t := 13) (v := (.bool false)) rfl)).cons (hF1240.get (t := 8) (v := (.pointer (some ⟨g110, 0, none⟩))) rfl)).cons (hF1240.get (t := 7) (v := (.pointer (some ⟨g1233, 0, none⟩))) rfl)).cons (hF1240.get (t := 6) (v := (.int .i64 (n : Nat))) rfl)).cons (hF1240.get (t := 5) (v := (.slice A25 ((digsOf s).length) c26)) rfl)).cons (hF1240.get (t := 4) (v := (.bool false)) rfl)).cons (hF1240.get (t := 3) (v := (.pointer (some ⟨g2, 0, none⟩))) rfl)).cons (hF1240.get (t := 1) (v := (.agg (byteVals d).toArray)) rfl)).cons (hF1240.get (t := 0) (v := (.slice A s.length c)) rfl)), (((Ext.refl w70).trans hx1218).trans hx1236), b1235, (by omega), b1242, (by omega), (by omega)⟩
    refine anyg_have (n1 := 5) (L1 := #[true, true, true, false, true, true, false, true, false, false, false]) (fun a' W => ∃ (g153 : Nat) (g92 : Nat), Sl 68 [(0, (.slice A s.length c)), (1, (.agg (byteVals d).toArray)), (3, (.pointer (some ⟨g2, 0, none⟩))), (4, (.bool false)), (5, (.slice A25 ((digsOf s).length) c26)), (6, (.int .i64 (n : Nat))), (7, (.pointer (some ⟨g153, 0, none⟩))), (13, (.bool false)), (19, (.bool (decide (((n : Nat) : Int) ≤ (((digsOf s).length : Nat) : Int))))), (24, (.slice A25 n c26)), (27, (.slice (some ⟨g92, 0, none⟩) 1 1))] a' ∧ Ext w70 W ∧ Blk W g92 26 (byteVals (d)) ∧ w70.heap.size ≤ g92 ∧ Blk W g153 26 (byteVals (List.replicate 32 0)) ∧ w70.heap.size ≤ g153 ∧ g92 ≠ g153) ?_ (fun st1243 => ?_)
    · skip
      rintro a1244 w1245 ⟨g153, g92, hF1246, hx1247, b1248, z1249, b1250, z1251, z1252⟩
      clear hF66
      have z1253 := hx1247.size
      have z1254 := b1248.lt
      have z1255 := b1250.lt
      refine anyg_two (i := 3) (k := 8) (by decide +kernel) rfl rfl ?_ ?_
      · skip
        have d1256 := ((hf52.ext hx71).ext hx1247)
        have hf1257 := (Fl.take_eq (j := n) d1256 (by omega) (digVals_take (digsOf_32 _) _))
        refine o_call hF1246 rfl rfl rfl rfl (rn_call (args1 (hF1246.get rfl)) rfl (by kernel_rfl)) (tree_at ((digsOf s).take n) _ (n := n) (v := (.slice A25 n c26)) (All32.take (digsOf_32 _) _) hf1257 (hG.ext ((((Ext.refl w).trans hx47).trans hx71).trans hx1247))) ?_
        rintro _ w1258 ⟨rfl, hx1259⟩
        refine ⟨_, rfl, ?_⟩; intro a1260 hF1261; clear hF1246; have z1262 := hx1259.size
        have b1263 : Blk w1258 g2 26 (byteVals d) := (((b51.ext hx71).ext hx1247).ext hx1259)
        refine ⟨⟨fun _ _ => ⟨(((Ext.refl w70).trans hx1247).trans hx1259), b1263⟩, fun _ => b1263⟩, ?_⟩
        have b1264 : Blk w1258 g92 26 (byteVals (d)) := (b1248.ext hx1259)
        have b1265 : Blk w1258 g153 26 (byteVals (List.replicate 32 0)) := (b1250.ext hx1259)
        exact st1028 _ _ ⟨g153, g92, (((((((((((hF1261.nil.cons (hF1261.get (t := 27) (v := (.slice (some ⟨g92, 0, none⟩) 1 1)) rfl)).cons (hF1261.get (t := 25) (v := (.agg (byteVals (treeD ((digsOf s).take n))).toArray)) rfl)).cons (hF1261.get (t := 19) (v := (.bool (decide (((n : Nat) : Int) ≤ (((digsOf s).length : Nat) : Int))))) rfl)).cons (hF1261.get (t := 13) (v := (.bool false)) rfl)).cons (hF1261.get (t := 7) (v := (.pointer (some ⟨g153, 0, none⟩))) rfl)).cons (hF1261.get (t := 6) (v := (.int .i64 (n : Nat))) rfl)).cons (hF1261.get (t := 5) (v := (.slice A25 ((digsOf s).length) c26)) rfl)).cons (hF1261.get (t := 4) (v := (.bool false)) rfl)).cons (hF1261.get (t := 3) (v := (.pointer (some ⟨g2, 0, none⟩))) rfl)).cons (hF1261.get (t := 1) (v := (.agg (byteVals d).toArray)) rfl)).cons (hF1261.get (t := 0) (v := (.slice A s.length c)) rfl)), (((Ext.refl w70).trans hx1247).trans hx1259), b1264, (by omega), b1265, (by omega), (by omega)⟩
      · skip
        refine o_new (fun g => (.pointer (some ⟨g, 0, none⟩))) (byteVals (List.replicate 32 0)) 26 hF1246 rfl rfl rfl rfl (by kernel_rfl) ?_
        intro g1266 w1267 a1272 hF1273 z1270 z1271 b1268 hx1269; clear hF1246
        have b1274 : Blk w1267 g2 26 (byteVals d) := (((b51.ext hx71).ext hx1247).ext hx1269)
        refine ⟨⟨fun _ _ => ⟨(((Ext.refl w70).trans hx1247).trans hx1269), b1274⟩, fun _ => b1274⟩, ?_⟩
        have b1275 : Blk w1267 g92 26 (byteVals (d)) := (b1248.ext hx1269)
        have b1276 : Blk w1267 g153 26 (byteVals (List.replicate 32 0)) := (b1250.ext hx1269)
        exact st966 _ _ ⟨g153, g1266, g92, ((((((((((((hF1273.nil.cons (hF1273.get (t := 27) (v := (.slice (some ⟨g92, 0, none⟩) 1 1)) rfl)).cons (hF1273.get (t := 24) (v := (.slice A25 n c26)) rfl)).cons (hF1273.get (t := 19) (v := (.bool (decide (((n : Nat) : Int) ≤ (((digsOf s).length : Nat) : Int))))) rfl)).cons (hF1273.get (t := 13) (v := (.bool false)) rfl)).cons (hF1273.get (t := 8) (v := (.pointer (some ⟨g1266, 0, none⟩))) rfl)).cons (hF1273.get (t := 7) (v := (.pointer (some ⟨g153, 0, none⟩))) rfl)).cons (hF1273.get (t := 6) (v := (.int .i64 (n : Nat))) rfl)).cons (hF1273.get (t := 5) (v := (.slice A25 ((digsOf s).length) c26)) rfl)).cons (hF1273.get (t := 4) (v := (.bool false)) rfl)).cons (hF1273.get (t := 3) (v := (.pointer (some ⟨g2, 0, none⟩))) rfl)).cons (hF1273.get (t := 1) (v := (.agg (byteVals d).toArray)) rfl)).cons (hF1273.get (t := 0) (v := (.slice A s.length c)) rfl)), (((Ext.refl w70).trans hx1247).trans hx1269), b1275, (by omega), b1276, (by omega), b1268, (by omega), (by omega), (by omega), (by omega)⟩
    refine anyg_pure (i := 0) (v := (.slice A25 ((digsOf s).length) c26)) hF66 (by decide +kernel) (by decide +kernel) rfl rfl rfl rfl (fun _ _ _ _ h => h) rfl (fun W => (rn_move (hF66.get rfl))) ?_
    intro a1277 hF1278; clear hF66
    refine anyg_pure (i := 1) (v := (.int .i64 (n : Nat))) hF1278 (by decide +kernel) (by decide +kernel) rfl rfl rfl rfl (fun _ _ _ _ h => h) rfl (fun W => (rn_move (hF1278.get rfl))) ?_
    intro a1279 hF1280; clear hF1278
    refine anyg_pure (i := 2) (v := (.slice A25 n c26)) hF1280 (by decide +kernel) (by decide +kernel) rfl rfl rfl rfl (fun _ _ _ _ h => h) rfl (fun W => (rn_sliceHi Tryd.underlying30 (by kernel_rfl : (Tryd.prog.info? 26).map (·.size) = some 32) (hF1280.get rfl) (hF1280.get rfl) (by omega : (0 : Int) ≤ (n : Nat)) (by omega : ((n : Nat) : Int) ≤ ((c26 : Nat) : Int)))) ?_
    intro a1281 hF1282; clear hF1280
    have b1284 : Blk w70 g2 26 (byteVals d) := (b51.ext hx71)
    have hS1283 : Blk w70 g2 26 (byteVals d) := b1284
    refine anyg_val2 (i := 4) (v := (.agg (byteVals d).toArray)) hF1282 (by decide +kernel) (by decide +kernel) rfl rfl rfl rfl (fun _ _ _ _ h => h) rfl hS1283 (fun W hW => (rn_loadBlk (hF1282.get rfl) hW Tryd.underlying26 rfl ((by kernel_rfl : (Tryd.prog.info? 26).map (·.size) = some 32).trans (congrArg some (byteVals_len hd).symm)))) ?_
    intro a1285 hF1286; clear hF1282
    refine anyg_four (i := 3) (k := 5) (l := 7) (p := 8) (by decide +kernel) rfl rfl rfl rfl ?_ ?_ ?_ ?_
    · skip
      have d1287 := (hf52.ext hx71)
      have hf1288 := (Fl.take_eq (j := n) d1287 (by omega) (digVals_take (digsOf_32 _) _))
      refine o_call hF1286 rfl rfl rfl rfl (rn_call (args1 (hF1286.get rfl)) rfl (by kernel_rfl)) (tree_at ((digsOf s).take n) _ (n := n) (v := (.slice A25 n c26)) (All32.take (digsOf_32 _) _) hf1288 (hG.ext (((Ext.refl w).trans hx47).trans hx71))) ?_
      rintro _ w1289 ⟨rfl, hx1290⟩
      refine ⟨_, rfl, ?_⟩; intro a1291 hF1292; clear hF1286; have z1293 := hx1290.size
      have b1294 : Blk w1289 g2 26 (byteVals d) := (b1284.ext hx1290)
      refine ⟨⟨fun _ _ => ⟨((Ext.refl w70).trans hx1290), b1294⟩, fun _ => b1294⟩, ?_⟩
      refine anyg_three (i := 5) (k := 7) (l := 8) (by decide +kernel) rfl rfl rfl ?_ ?_ ?_
      · skip
        refine o_new (fun g => (.slice (some ⟨g, 0, none⟩) 1 1)) (byteVals (d)) 26 hF1292 rfl rfl rfl rfl (rn_buildSlice (parts1 (hF1292.get rfl)) (build_wholeE (vs := [(.agg (byteVals d).toArray)]) El30 rfl rfl (fun v hv => by rw [List.mem_singleton.1 hv]; exact (byteVals_len hd)) (by decide) (by decide) (by simp [Value.cells, byteVals]))) ?_
        intro g1295 w1296 a1301 hF1302 z1299 z1300 b1297 hx1298; clear hF1292
        have b1303 : Blk w1296 g2 26 (byteVals d) := (b1294.ext hx1298)
        refine ⟨⟨fun _ _ => ⟨(((Ext.refl w70).trans hx1290).trans hx1298), b1303⟩, fun _ => b1303⟩, ?_⟩
        exact st1095 _ _ ⟨g1295, ((((((((((hF1302.nil.cons (hF1302.get (t := 27) (v := (.slice (some ⟨g1295, 0, none⟩) 1 1)) rfl)).cons (hF1302.get (t := 25) (v := (.agg (byteVals (treeD ((digsOf s).take n))).toArray)) rfl)).cons (hF1302.get (t := 19) (v := (.bool (decide (((n : Nat) : Int) ≤ (((digsOf s).length : Nat) : Int))))) rfl)).cons (hF1302.get (t := 13) (v := (.bool false)) rfl)).cons (hF1302.get (t := 6) (v := (.int .i64 (n : Nat))) rfl)).cons (hF1302.get (t := 5) (v := (.slice A25 ((digsOf s).length) c26)) rfl)).cons (hF1302.get (t := 4) (v := (.bool false)) rfl)).cons (hF1302.get (t := 3) (v := (.pointer (some ⟨g2, 0, none⟩))) rfl)).cons (hF1302.get (t := 1) (v := (.agg (byteVals d).toArray)) rfl)).cons (hF1302.get (t := 0) (v := (.slice A s.length c)) rfl)), (((Ext.refl w70).trans hx1290).trans hx1298), b1297, (by omega)⟩
      · skip
        refine o_new (fun g => (.pointer (some ⟨g, 0, none⟩))) (byteVals (List.replicate 32 0)) 26 hF1292 rfl rfl rfl rfl (by kernel_rfl) ?_
        intro g1304 w1305 a1310 hF1311 z1308 z1309 b1306 hx1307; clear hF1292
        have b1312 : Blk w1305 g2 26 (byteVals d) := (b1294.ext hx1307)
        refine ⟨⟨fun _ _ => ⟨(((Ext.refl w70).trans hx1290).trans hx1307), b1312⟩, fun _ => b1312⟩, ?_⟩
        exact st1185 _ _ ⟨g1304, (((((((((((hF1311.nil.cons (hF1311.get (t := 26) (v := (.agg (byteVals d).toArray)) rfl)).cons (hF1311.get (t := 25) (v := (.agg (byteVals (treeD ((digsOf s).take n))).toArray)) rfl)).cons (hF1311.get (t := 19) (v := (.bool (decide (((n : Nat) : Int) ≤ (((digsOf s).length : Nat) : Int))))) rfl)).cons (hF1311.get (t := 13) (v := (.bool false)) rfl)).cons (hF1311.get (t := 7) (v := (.pointer (some ⟨g1304, 0, none⟩))) rfl)).cons (hF1311.get (t := 6) (v := (.int .i64 (n : Nat))) rfl)).cons (hF1311.get (t := 5) (v := (.slice A25 ((digsOf s).length) c26)) rfl)).cons (hF1311.get (t := 4) (v := (.bool false)) rfl)).cons (hF1311.get (t := 3) (v := (.pointer (some ⟨g2, 0, none⟩))) rfl)).cons (hF1311.get (t := 1) (v := (.agg (byteVals d).toArray)) rfl)).cons (hF1311.get (t := 0) (v := (.slice A s.length c)) rfl)), (((Ext.refl w70).trans hx1290).trans hx1307), b1306, (by omega)⟩
      · skip
        refine o_new (fun g => (.pointer (some ⟨g, 0, none⟩))) (byteVals (List.replicate 32 0)) 26 hF1292 rfl rfl rfl rfl (by kernel_rfl) ?_
        intro g1313 w1314 a1319 hF1320 z1317 z1318 b1315 hx1316; clear hF1292
        have b1321 : Blk w1314 g2 26 (byteVals d) := (b1294.ext hx1316)
        refine ⟨⟨fun _ _ => ⟨(((Ext.refl w70).trans hx1290).trans hx1316), b1321⟩, fun _ => b1321⟩, ?_⟩
        exact st1214 _ _ ⟨g1313, (((((((((((hF1320.nil.cons (hF1320.get (t := 26) (v := (.agg (byteVals d).toArray)) rfl)).cons (hF1320.get (t := 25) (v := (.agg (byteVals (treeD ((digsOf s).take n))).toArray)) rfl)).cons (hF1320.get (t := 19) (v := (.bool (decide (((n : Nat) : Int) ≤ (((digsOf s).length : Nat) : Int))))) rfl)).cons (hF1320.get (t := 13) (v := (.bool false)) rfl)).cons (hF1320.get (t := 8) (v := (.pointer (some ⟨g1313, 0, none⟩))) rfl)).cons (hF1320.get (t := 6) (v := (.int .i64 (n : Nat))) rfl)).cons (hF1320.get (t := 5) (v := (.slice A25 ((digsOf s).length) c26)) rfl)).cons (hF1320.get (t := 4) (v := (.bool false)) rfl)).cons (hF1320.get (t := 3) (v := (.pointer (some ⟨g2, 0, none⟩))) rfl)).cons (hF1320.get (t := 1) (v := (.agg (byteVals d).toArray)) rfl)).cons (hF1320.get (t := 0) (v := (.slice A s.length c)) rfl)), (((Ext.refl w70).trans hx1290).trans hx1316), b1315, (by omega)⟩
    · skip
      refine o_new (fun g => (.slice (some ⟨g, 0, none⟩) 1 1)) (byteVals (d)) 26 hF1286 rfl rfl rfl rfl (rn_buildSlice (parts1 (hF1286.get rfl)) (build_wholeE (vs := [(.agg (byteVals d).toArray)]) El30 rfl rfl (fun v hv => by rw [List.mem_singleton.1 hv]; exact (byteVals_len hd)) (by decide) (by decide) (by simp [Value.cells, byteVals]))) ?_
      intro g1322 w1323 a1328 hF1329 z1326 z1327 b1324 hx1325; clear hF1286
      have b1330 : Blk w1323 g2 26 (byteVals d) := (b1284.ext hx1325)
      refine ⟨⟨fun _ _ => ⟨((Ext.refl w70).trans hx1325), b1330⟩, fun _ => b1330⟩, ?_⟩
      refine anyg_three (i := 3) (k := 7) (l := 8) (by decide +kernel) rfl rfl rfl ?_ ?_ ?_
      · skip
        have d1331 := ((hf52.ext hx71).ext hx1325)
        have hf1332 := (Fl.take_eq (j := n) d1331 (by omega) (digVals_take (digsOf_32 _) _))
        refine o_call hF1329 rfl rfl rfl rfl (rn_call (args1 (hF1329.get rfl)) rfl (by kernel_rfl)) (tree_at ((digsOf s).take n) _ (n := n) (v := (.slice A25 n c26)) (All32.take (digsOf_32 _) _) hf1332 (hG.ext ((((Ext.refl w).trans hx47).trans hx71).trans hx1325))) ?_
        rintro _ w1333 ⟨rfl, hx1334⟩
        refine ⟨_, rfl, ?_⟩; intro a1335 hF1336; clear hF1329; have z1337 := hx1334.size
        have b1338 : Blk w1333 g2 26 (byteVals d) := (b1330.ext hx1334)
        refine ⟨⟨fun _ _ => ⟨(((Ext.refl w70).trans hx1325).trans hx1334), b1338⟩, fun _ => b1338⟩, ?_⟩
        have b1339 : Blk w1333 g1322 26 (byteVals (d)) := (b1324.ext hx1334)
        exact st1095 _ _ ⟨g1322, ((((((((((hF1336.nil.cons (hF1336.get (t := 27) (v := (.slice (some ⟨g1322, 0, none⟩) 1 1)) rfl)).cons (hF1336.get (t := 25) (v := (.agg (byteVals (treeD ((digsOf s).take n))).toArray)) rfl)).cons (hF1336.get (t := 19) (v := (.bool (decide (((n : Nat) : Int) ≤ (((digsOf s).length : Nat) : Int))))) rfl)).cons (hF1336.get (t := 13) (v := (.bool false)) rfl)).cons (hF1336.get (t := 6) (v := (.int .i64 (n : Nat))) rfl)).cons (hF1336.get (t := 5) (v := (.slice A25 ((digsOf s).length) c26)) rfl)).cons (hF1336.get (t := 4) (v := (.bool false)) rfl)).cons (hF1336.get (t := 3) (v := (.pointer (some ⟨g2, 0, none⟩))) rfl)).cons (hF1336.get (t := 1) (v := (.agg (byteVals d).toArray)) rfl)).cons (hF1336.get (t := 0) (v := (.slice A s.length c)) rfl)), (((Ext.refl w70).trans hx1325).trans hx1334), b1339, (by omega)⟩
      · skip
        refine o_new (fun g => (.pointer (some ⟨g, 0, none⟩))) (byteVals (List.replicate 32 0)) 26 hF1329 rfl rfl rfl rfl (by kernel_rfl) ?_
        intro g1340 w1341 a1346 hF1347 z1344 z1345 b1342 hx1343; clear hF1329
        have b1348 : Blk w1341 g2 26 (byteVals d) := (b1330.ext hx1343)
        refine ⟨⟨fun _ _ => ⟨(((Ext.refl w70).trans hx1325).trans hx1343), b1348⟩, fun _ => b1348⟩, ?_⟩
        have b1349 : Blk w1341 g1322 26 (byteVals (d)) := (b1324.ext hx1343)
        exact st1243 _ _ ⟨g1340, g1322, (((((((((((hF1347.nil.cons (hF1347.get (t := 27) (v := (.slice (some ⟨g1322, 0, none⟩) 1 1)) rfl)).cons (hF1347.get (t := 24) (v := (.slice A25 n c26)) rfl)).cons (hF1347.get (t := 19) (v := (.bool (decide (((n : Nat) : Int) ≤ (((digsOf s).length : Nat) : Int))))) rfl)).cons (hF1347.get (t := 13) (v := (.bool false)) rfl)).cons (hF1347.get (t := 7) (v := (.pointer (some ⟨g1340, 0, none⟩))) rfl)).cons (hF1347.get (t := 6) (v := (.int .i64 (n : Nat))) rfl)).cons (hF1347.get (t := 5) (v := (.slice A25 ((digsOf s).length) c26)) rfl)).cons (hF1347.get (t := 4) (v := (.bool false)) rfl)).cons (hF1347.get (t := 3) (v := (.pointer (some ⟨g2, 0, none⟩))) rfl)).cons (hF1347.get (t := 1) (v := (.agg (byteVals d).toArray)) rfl)).cons (hF1347.get (t := 0) (v := (.slice A s.length c)) rfl)), (((Ext.refl w70).trans hx1325).trans hx1343), b1349, (by omega), b1342, (by omega), (by omega)⟩
      · skip
        refine o_new (fun g => (.pointer (some ⟨g, 0, none⟩))) (byteVals (List.replicate 32 0)) 26 hF1329 rfl rfl rfl rfl (by kernel_rfl) ?_
        intro g1350 w1351 a1356 hF1357 z1354 z1355 b1352 hx1353; clear hF1329
        have b1358 : Blk w1351 g2 26 (byteVals d) := (b1330.ext hx1353)
        refine ⟨⟨fun _ _ => ⟨(((Ext.refl w70).trans hx1325).trans hx1353), b1358⟩, fun _ => b1358⟩, ?_⟩
        have b1359 : Blk w1351 g1322 26 (byteVals (d)) := (b1324.ext hx1353)
        exact st1151 _ _ ⟨g1350, g1322, (((((((((((hF1357.nil.cons (hF1357.get (t := 27) (v := (.slice (some ⟨g1322, 0, none⟩) 1 1)) rfl)).cons (hF1357.get (t := 24) (v := (.slice A25 n c26)) rfl)).cons (hF1357.get (t := 19) (v := (.bool (decide (((n : Nat) : Int) ≤ (((digsOf s).length : Nat) : Int))))) rfl)).cons (hF1357.get (t := 13) (v := (.bool false)) rfl)).cons (hF1357.get (t := 8) (v := (.pointer (some ⟨g1350, 0, none⟩))) rfl)).cons (hF1357.get (t := 6) (v := (.int .i64 (n : Nat))) rfl)).cons (hF1357.get (t := 5) (v := (.slice A25 ((digsOf s).length) c26)) rfl)).cons (hF1357.get (t := 4) (v := (.bool false)) rfl)).cons (hF1357.get (t := 3) (v := (.pointer (some ⟨g2, 0, none⟩))) rfl)).cons (hF1357.get (t := 1) (v := (.agg (byteVals d).toArray)) rfl)).cons (hF1357.get (t := 0) (v := (.slice A s.length c)) rfl)), (((Ext.refl w70).trans hx1325).trans hx1353), b1359, (by omega), b1352, (by omega), (by omega)⟩
    · skip
      refine o_new (fun g => (.pointer (some ⟨g, 0, none⟩))) (byteVals (List.replicate 32 0)) 26 hF1286 rfl rfl rfl rfl (by kernel_rfl) ?_
      intro g1360 w1361 a1366 hF1367 z1364 z1365 b1362 hx1363; clear hF1286
      have b1368 : Blk w1361 g2 26 (byteVals d) := (b1284.ext hx1363)
      refine ⟨⟨fun _ _ => ⟨((Ext.refl w70).trans hx1363), b1368⟩, fun _ => b1368⟩, ?_⟩
      refine anyg_three (i := 3) (k := 5) (l := 8) (by decide +kernel) rfl rfl rfl ?_ ?_ ?_
      · skip
        have d1369 := ((hf52.ext hx71).ext hx1363)
        have hf1370 := (Fl.take_eq (j := n) d1369 (by omega) (digVals_take (digsOf_32 _) _))
        refine o_call hF1367 rfl rfl rfl rfl (rn_call (args1 (hF1367.get rfl)) rfl (by kernel_rfl)) (tree_at ((digsOf s).take n) _ (n := n) (v := (.slice A25 n c26)) (All32.take (digsOf_32 _) _) hf1370 (hG.ext ((((Ext.refl w).trans hx47).trans hx71).trans hx1363))) ?_
        rintro _ w1371 ⟨rfl, hx1372⟩
        refine ⟨_, rfl, ?_⟩; intro a1373 hF1374; clear hF1367; have z1375 := hx1372.size
        have b1376 : Blk w1371 g2 26 (byteVals d) := (b1368.ext hx1372)
        refine ⟨⟨fun _ _ => ⟨(((Ext.refl w70).trans hx1363).trans hx1372), b1376⟩, fun _ => b1376⟩, ?_⟩
        have b1377 : Blk w1371 g1360 26 (byteVals (List.replicate 32 0)) := (b1362.ext hx1372)
        exact st1185 _ _ ⟨g1360, (((((((((((hF1374.nil.cons (hF1374.get (t := 26) (v := (.agg (byteVals d).toArray)) rfl)).cons (hF1374.get (t := 25) (v := (.agg (byteVals (treeD ((digsOf s).take n))).toArray)) rfl)).cons (hF1374.get (t := 19) (v := (.bool (decide (((n : Nat) : Int) ≤ (((digsOf s).length : Nat) : Int))))) rfl)).cons (hF1374.get (t := 13) (v := (.bool false)) rfl)).cons (hF1374.get (t := 7) (v := (.pointer (some ⟨g1360, 0, none⟩))) rfl)).cons (hF1374.get (t := 6) (v := (.int .i64 (n : Nat))) rfl)).cons (hF1374.get (t := 5) (v := (.slice A25 ((digsOf s).length) c26)) rfl)).cons (hF1374.get (t := 4) (v := (.bool false)) rfl)).cons (hF1374.get (t := 3) (v := (.pointer (some ⟨g2, 0, none⟩))) rfl)).cons (hF1374.get (t := 1) (v := (.agg (byteVals d).toArray)) rfl)).cons (hF1374.get (t := 0) (v := (.slice A s.length c)) rfl)), (((Ext.refl w70).trans hx1363).trans hx1372), b1377, (by omega)⟩
      · skip
        refine o_new (fun g => (.slice (some ⟨g, 0, none⟩) 1 1)) (byteVals (d)) 26 hF1367 rfl rfl rfl rfl (rn_buildSlice (parts1 (hF1367.get rfl)) (build_wholeE (vs := [(.agg (byteVals d).toArray)]) El30 rfl rfl (fun v hv => by rw [List.mem_singleton.1 hv]; exact (byteVals_len hd)) (by decide) (by decide) (by simp [Value.cells, byteVals]))) ?_
        intro g1378 w1379 a1384 hF1385 z1382 z1383 b1380 hx1381; clear hF1367
        have b1386 : Blk w1379 g2 26 (byteVals d) := (b1368.ext hx1381)
        refine ⟨⟨fun _ _ => ⟨(((Ext.refl w70).trans hx1363).trans hx1381), b1386⟩, fun _ => b1386⟩, ?_⟩
        have b1387 : Blk w1379 g1360 26 (byteVals (List.replicate 32 0)) := (b1362.ext hx1381)
        exact st1243 _ _ ⟨g1360, g1378, (((((((((((hF1385.nil.cons (hF1385.get (t := 27) (v := (.slice (some ⟨g1378, 0, none⟩) 1 1)) rfl)).cons (hF1385.get (t := 24) (v := (.slice A25 n c26)) rfl)).cons (hF1385.get (t := 19) (v := (.bool (decide (((n : Nat) : Int) ≤ (((digsOf s).length : Nat) : Int))))) rfl)).cons (hF1385.get (t := 13) (v := (.bool false)) rfl)).cons (hF1385.get (t := 7) (v := (.pointer (some ⟨g1360, 0, none⟩))) rfl)).cons (hF1385.get (t := 6) (v := (.int .i64 (n : Nat))) rfl)).cons (hF1385.get (t := 5) (v := (.slice A25 ((digsOf s).length) c26)) rfl)).cons (hF1385.get (t := 4) (v := (.bool false)) rfl)).cons (hF1385.get (t := 3) (v := (.pointer (some ⟨g2, 0, none⟩))) rfl)).cons (hF1385.get (t := 1) (v := (.agg (byteVals d).toArray)) rfl)).cons (hF1385.get (t := 0) (v := (.slice A s.length c)) rfl)), (((Ext.refl w70).trans hx1363).trans hx1381), b1380, (by omega), b1387, (by omega), (by omega)⟩
      · skip
        refine o_new (fun g => (.pointer (some ⟨g, 0, none⟩))) (byteVals (List.replicate 32 0)) 26 hF1367 rfl rfl rfl rfl (by kernel_rfl) ?_
        intro g1388 w1389 a1394 hF1395 z1392 z1393 b1390 hx1391; clear hF1367
        have b1396 : Blk w1389 g2 26 (byteVals d) := (b1368.ext hx1391)
        refine ⟨⟨fun _ _ => ⟨(((Ext.refl w70).trans hx1363).trans hx1391), b1396⟩, fun _ => b1396⟩, ?_⟩
        have b1397 : Blk w1389 g1360 26 (byteVals (List.replicate 32 0)) := (b1362.ext hx1391)
        exact st1061 _ _ ⟨g1360, g1388, ((((((((((((hF1395.nil.cons (hF1395.get (t := 26) (v := (.agg (byteVals d).toArray)) rfl)).cons (hF1395.get (t := 24) (v := (.slice A25 n c26)) rfl)).cons (hF1395.get (t := 19) (v := (.bool (decide (((n : Nat) : Int) ≤ (((digsOf s).length : Nat) : Int))))) rfl)).cons (hF1395.get (t := 13) (v := (.bool false)) rfl)).cons (hF1395.get (t := 8) (v := (.pointer (some ⟨g1388, 0, none⟩))) rfl)).cons (hF1395.get (t := 7) (v := (.pointer (some ⟨g1360, 0, none⟩))) rfl)).cons (hF1395.get (t := 6) (v := (.int .i64 (n : Nat))) rfl)).cons (hF1395.get (t := 5) (v := (.slice A25 ((digsOf s).length) c26)) rfl)).cons (hF1395.get (t := 4) (v := (.bool false)) rfl)).cons (hF1395.get (t := 3) (v := (.pointer (some ⟨g2, 0, none⟩))) rfl)).cons (hF1395.get (t := 1) (v := (.agg (byteVals d).toArray)) rfl)).cons (hF1395.get (t := 0) (v := (.slice A s.length c)) rfl)), (((Ext.refl w70).trans hx1363).trans hx1391), b1397, (by omega), b1390, (by omega), (by omega)⟩
    · skip
      refine o_new (fun g => (.pointer (some ⟨g, 0, none⟩))) (byteVals (List.replicate 32 0)) 26 hF1286 rfl rfl rfl rfl (by kernel_rfl) ?_
      intro g1398 w1399 a1404 hF1405 z1402 z1403 b1400 hx1401; clear hF1286
      have b1406 : Blk w1399 g2 26 (byteVals d) := (b1284.ext hx1401)
      refine ⟨⟨fun _ _ => ⟨((Ext.refl w70).trans hx1401), b1406⟩, fun _ => b1406⟩, ?_⟩
      refine anyg_three (i := 3) (k := 5) (l := 7) (by decide +kernel) rfl rfl rfl ?_ ?_ ?_
      · skip
        have d1407 := ((hf52.ext hx71).ext hx1401)
        have hf1408 := (Fl.take_eq (j := n) d1407 (by omega) (digVals_take (digsOf_32 _) _))
        refine o_call hF1405 rfl rfl rfl rfl (rn_call (args1 (hF1405.get rfl)) rfl (by kernel_rfl)) (tree_at ((digsOf s).take n) _ (n := n) (v := (.slice A25 n c26)) (All32.take (digsOf_32 _) _) hf1408 (hG.ext ((((Ext.refl w).trans hx47).trans hx71).trans hx1401))) ?_
        rintro _ w1409 ⟨rfl, hx1410⟩
        refine ⟨_, rfl, ?_⟩; intro a1411 hF1412; clear hF1405; have z1413 := hx1410.size
        have b1414 : Blk w1409 g2 26 (byteVals d) := (b1406.ext hx1410)
        refine ⟨⟨fun _ _ => ⟨(((Ext.refl w70).trans hx1401).trans hx1410), b1414⟩, fun _ => b1414⟩, ?_⟩
        have b1415 : Blk w1409 g1398 26 (byteVals (List.replicate 32 0)) := (b1400.ext hx1410)
        exact st1214 _ _ ⟨g1398, (((((((((((hF1412.nil.cons (hF1412.get (t := 26) (v := (.agg (byteVals d).toArray)) rfl)).cons (hF1412.get (t := 25) (v := (.agg (byteVals (treeD ((digsOf s).take n))).toArray)) rfl)).cons (hF1412.get (t := 19) (v := (.bool (decide (((n : Nat) : Int) ≤ (((digsOf s).length : Nat) : Int))))) rfl)).cons (hF1412.get (t := 13) (v := (.bool false)) rfl)).cons (hF1412.get (t := 8) (v := (.pointer (some ⟨g1398, 0, none⟩))) rfl)).cons (hF1412.get (t := 6) (v := (.int .i64 (n : Nat))) rfl)).cons (hF1412.get (t := 5) (v := (.slice A25 ((digsOf s).length) c26)) rfl)).cons (hF1412.get (t := 4) (v := (.bool false)) rfl)).cons (hF1412.get (t := 3) (v := (.pointer (some ⟨g2, 0, none⟩))) rfl)).cons (hF1412.get (t := 1) (v := (.agg (byteVals d).toArray)) rfl)).cons (hF1412.get (t := 0) (v := (.slice A s.length c)) rfl)), (((Ext.refl w70).trans hx1401).trans hx1410), b1415, (by omega)⟩
      · skip
        refine o_new (fun g => (.slice (some ⟨g, 0, none⟩) 1 1)) (byteVals (d)) 26 hF1405 rfl rfl rfl rfl (rn_buildSlice (parts1 (hF1405.get rfl)) (build_wholeE (vs := [(.agg (byteVals d).toArray)]) El30 rfl rfl (fun v hv => by rw [List.mem_singleton.1 hv]; exact (byteVals_len hd)) (by decide) (by decide) (by simp [Value.cells, byteVals]))) ?_
        intro g1416 w1417 a1422 hF1423 z1420 z1421 b1418 hx1419; clear hF1405
        have b1424 : Blk w1417 g2 26 (byteVals d) := (b1406.ext hx1419)
        refine ⟨⟨fun _ _ => ⟨(((Ext.refl w70).trans hx1401).trans hx1419), b1424⟩, fun _ => b1424⟩, ?_⟩
        have b1425 : Blk w1417 g1398 26 (byteVals (List.replicate 32 0)) := (b1400.ext hx1419)
        exact st1151 _ _ ⟨g1398, g1416, (((((((((((hF1423.nil.cons (hF1423.get (t := 27) (v := (.slice (some ⟨g1416, 0, none⟩) 1 1)) rfl)).cons (hF1423.get (t := 24) (v := (.slice A25 n c26)) rfl)).cons (hF1423.get (t := 19) (v := (.bool (decide (((n : Nat) : Int) ≤ (((digsOf s).length : Nat) : Int))))) rfl)).cons (hF1423.get (t := 13) (v := (.bool false)) rfl)).cons (hF1423.get (t := 8) (v := (.pointer (some ⟨g1398, 0, none⟩))) rfl)).cons (hF1423.get (t := 6) (v := (.int .i64 (n : Nat))) rfl)).cons (hF1423.get (t := 5) (v := (.slice A25 ((digsOf s).length) c26)) rfl)).cons (hF1423.get (t := 4) (v := (.bool false)) rfl)).cons (hF1423.get (t := 3) (v := (.pointer (some ⟨g2, 0, none⟩))) rfl)).cons (hF1423.get (t := 1) (v := (.agg (byteVals d).toArray)) rfl)).cons (hF1423.get (t := 0) (v := (.slice A s.length c)) rfl)), (((Ext.refl w70).trans hx1401).trans hx1419), b1418, (by omega), b1425, (by omega), (by omega)⟩
      · skip
        refine o_new (fun g => (.pointer (some ⟨g, 0, none⟩))) (byteVals (List.replicate 32 0)) 26 hF1405 rfl rfl rfl rfl (by kernel_rfl) ?_
        intro g1426 w1427 a1432 hF1433 z1430 z1431 b1428 hx1429; clear hF1405
        have b1434 : Blk w1427 g2 26 (byteVals d) := (b1406.ext hx1429)
        refine ⟨⟨fun _ _ => ⟨(((Ext.refl w70).trans hx1401).trans hx1429), b1434⟩, fun _ => b1434⟩, ?_⟩
        have b1435 : Blk w1427 g1398 26 (byteVals (List.replicate 32 0)) := (b1400.ext hx1429)
        exact st1061 _ _ ⟨g1426, g1398, ((((((((((((hF1433.nil.cons (hF1433.get (t := 26) (v := (.agg (byteVals d).toArray)) rfl)).cons (hF1433.get (t := 24) (v := (.slice A25 n c26)) rfl)).cons (hF1433.get (t := 19) (v := (.bool (decide (((n : Nat) : Int) ≤ (((digsOf s).length : Nat) : Int))))) rfl)).cons (hF1433.get (t := 13) (v := (.bool false)) rfl)).cons (hF1433.get (t := 8) (v := (.pointer (some ⟨g1398, 0, none⟩))) rfl)).cons (hF1433.get (t := 7) (v := (.pointer (some ⟨g1426, 0, none⟩))) rfl)).cons (hF1433.get (t := 6) (v := (.int .i64 (n : Nat))) rfl)).cons (hF1433.get (t := 5) (v := (.slice A25 ((digsOf s).length) c26)) rfl)).cons (hF1433.get (t := 4) (v := (.bool false)) rfl)).cons (hF1433.get (t := 3) (v := (.pointer (some ⟨g2, 0, none⟩))) rfl)).cons (hF1433.get (t := 1) (v := (.agg (byteVals d).toArray)) rfl)).cons (hF1433.get (t := 0) (v := (.slice A s.length c)) rfl)), (((Ext.refl w70).trans hx1401).trans hx1429), b1428, (by omega), b1435, (by omega), (by omega)⟩
  · skip
    refine wp_cond_false (c_false hF66 rfl (decide_eq_false hc67)) ?_
    refine wp_exit ?_
    refine exit_then ?_
    refine exit_then ?_
    refine exit_here ?_
    refine hK39 _ _ ?_
    clear hK39
    refine wp_seq_k (fun K1436 hK1436 => ?_)
    refine wp_region_lit ?_
    refine wpl_op (i := 0) rfl (o_val (v := (.bool true)) hF66 rfl rfl rfl rfl (rn_assign rfl) ?_)
    intro a1437 hF1438; clear hF66
    refine wpList_nil ?_
    refine hK1436 _ _ ?_
    clear hK1436
    refine wp_ret ?_
    refine ret1 hF1438 rfl rfl ?_
    exact ⟨congrArg (fun b => Ending.returned (.bool b)) (rfl : true = true), ((Ext.refl w).trans hx47)⟩

end Go.Proofs.YtgodliookpgliaaDoor
