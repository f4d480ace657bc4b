/- Contract of the reference's block. -/
import Derived.Test.YtgodliookpgliaaDoorProg
import Derived.Test.YtgodliookpgliaaDoorRefA3
import Derived.KernelRfl
namespace Go.Proofs.YtgodliookpgliaaDoor
open Go.RowKit

variable {S S' : Nat → Prop}

def vTo (h : List UInt32) (k : Nat) : List UInt32 := (h.take k ++ List.replicate (8 - k) 0) ++ (iv.take k ++ List.replicate (8 - k) 0)
theorem vTo_len {h : List UInt32} {k : Nat} (hh : h.length = 8) (hk : k ≤ 8) : (vTo h k).length = 16 := by simp [vTo, hh, iv_len]; omega
theorem half_set {a : List UInt32} {k : Nat} (ha : a.length = 8) (hk : k < 8) : (a.take k ++ List.replicate (8 - k) (0 : UInt32)).set k (a.getD k 0) = a.take (k + 1) ++ List.replicate (8 - (k + 1)) 0 := by
  rw [List.set_append_right _ _ (by simp; omega), List.length_take, Nat.min_eq_left (by omega), Nat.sub_self, show 8 - k = (8 - (k + 1)) + 1 by omega, List.replicate_succ, List.set_cons_zero, List.take_add_one, List.getD_eq_getElem?_getD, List.getElem?_eq_getElem (by omega), List.append_assoc]
  rfl
theorem vTo_step {h v v' : List UInt32} {k : Nat} (hh : h.length = 8) (hk : k < 8) (hv : v = vTo h k) (he : v' = (v.set k (h.getD k 0)).set (8 + k) (iv.getD k 0)) : v' = vTo h (k + 1) := by
  have h1 : (h.take k ++ List.replicate (8 - k) (0 : UInt32)).length = 8 := by simp [hh]; omega
  rw [he, hv, vTo, List.set_append_left _ _ (by omega), half_set hh hk, List.set_append_right _ _ (by simp [hh]; omega)]
  have h2 : (h.take (k + 1) ++ List.replicate (8 - (k + 1)) (0 : UInt32)).length = 8 := by simp [hh]; omega
  rw [h2, Nat.add_sub_cancel_left, half_set iv_len hk]; rfl
theorem vTo_start (h : List UInt32) : vTo h 0 = List.replicate 16 0 := rfl
theorem vTo_done {h v : List UInt32} (hh : h.length = 8) (hv : v = vTo h 8) : v = h ++ iv := by rw [hv, vTo, List.take_of_length_le (by omega), List.take_of_length_le (by rw [iv_len]; omega)]; simp
theorem xor_all (a : UInt32) : a ^^^ 4294967295 = ~~~ a := by
  rw [UInt32.xor_comm]
  exact UInt32.toBitVec_inj.1 (BitVec.allOnes_xor (x := a.toBitVec))
theorem mixTo_r1 {m : List UInt32} {r : Nat} {v0 v v' : List UInt32} {k a b c d : Nat} {q : Four} (hk : k < 4) (hv : v = mixTo m (permRow r) v0 k) (ha : a = k % 4) (hb : b = 4 + k % 4) (hc : c = 8 + k % 4) (hd : d = 12 + k % 4)
    (hq : q = mix4 (v.getD a 0) (v.getD b 0) (v.getD c 0) (v.getD d 0) (m.getD ((permRow r).getD (2 * k) 0) 0) (m.getD ((permRow r).getD (2 * k + 1) 0) 0)) (he : v' = (((v.set a q.a).set b q.b).set c q.c).set d q.d) : v' = mixTo m (permRow r) v0 (k + 1) := by
  have h0 : k % 4 = k := Nat.mod_eq_of_lt hk
  rw [h0] at ha hb hc hd
  subst ha hb hc hd hq
  rw [mixTo, foldl_range, ← mixTo, ← hv, he]
  simp [mixAt, hk, mixv, put4, at_]
theorem mixTo_r2 {m : List UInt32} {r : Nat} {v0 v v' : List UInt32} {k a b c d : Nat} {q : Four} (hk : ¬ k < 4) (hv : v = mixTo m (permRow r) v0 k) (ha : a = k % 4) (hb : b = 4 + (k % 4 + 1) % 4) (hc : c = 8 + (k % 4 + 2) % 4) (hd : d = 12 + (k % 4 + 3) % 4)
    (hq : q = mix4 (v.getD a 0) (v.getD b 0) (v.getD c 0) (v.getD d 0) (m.getD ((permRow r).getD (2 * k) 0) 0) (m.getD ((permRow r).getD (2 * k + 1) 0) 0)) (he : v' = (((v.set a q.a).set b q.b).set c q.c).set d q.d) : v' = mixTo m (permRow r) v0 (k + 1) := by
  subst ha hb hc hd hq
  rw [mixTo, foldl_range, ← mixTo, ← hv, he]
  simp only [mixAt, hk, if_false, mixv, put4, at_]
theorem closeTo_r {v h0 h h' : List UInt32} {k : Nat} (hh : h = closeTo v h0 k) (he : h' = h.set k ((h.getD k 0 ^^^ v.getD k 0) ^^^ v.getD (8 + k) 0)) : h' = closeTo v h0 (k + 1) := by
  rw [he, hh, closeTo, closeTo, foldl_range, ← closeTo, close_, at_, at_, at_]

set_option maxRecDepth 100000 in
set_option maxHeartbeats 1000000 in
theorem rblock_any (h : List UInt32) (A : Option Addr) (c : Nat) (b : List UInt8) (n : UInt64) (last : Bool) (w : World) (hh : h.length = 8) (hf : Fl S w 1 (.slice A 64 c) 64 (byteVals b)) :
    Calls Tryd.prog 26 #[.agg (u32Vals h).toArray, .slice A 64 c, .int .u64 (n.toNat : Nat), .bool last] w (fun e w' => e = .returned (.agg (u32Vals (absorb h b n last)).toArray) ∧ Ext w w') := by
  have hc : Fl (Clip S w) w 1 (.slice A 64 c) 64 (byteVals b) := hf.clip
  have hcc := (Fl.cel hc).2.1
  have hbl := Fl.blen hf
  refine calls_enter (l := [(.agg (u32Vals h).toArray), (.slice A 64 c), (.int .u64 (n.toNat : Nat)), (.bool last)]) Tryd.func26 rfl rfl rfl (fun aA hF => ?_)
  refine wp_seq_k (fun K1 hK1 => ?_)
  refine wp_region_lit ?_
  refine wpl_op (i := 0) rfl (o_new (fun g => (.pointer (some ⟨g, 0, none⟩))) (u32Vals h) 48 hF rfl rfl rfl rfl (rn_box (hF.get rfl) (box_arr _)) ?_)
  intro g2 w3 a8 hF9 z6 z7 b4 hx5; clear hF
  refine wpl_op (i := 1) rfl (o_new (fun g => (.pointer (some ⟨g, 0, none⟩))) (u32Vals (List.replicate 8 0)) 48 hF9 rfl rfl rfl rfl (by kernel_rfl) ?_)
  intro g10 w11 a16 hF17 z14 z15 b12 hx13; clear hF9
  refine wpList_nil ?_
  refine hK1 _ _ ?_
  clear hK1
  refine wp_seq_k (fun K18 hK18 => ?_)
  refine wp_region_lit ?_
  refine wpl_op (i := 0) rfl (o_val (v := (.agg (u32Vals (List.replicate 16 0)).toArray)) hF17 rfl rfl rfl rfl (rn_build parts0 (by kernel_rfl)) ?_)
  intro a19 hF20; clear hF17
  refine wpl_op (i := 1) rfl (o_new (fun g => (.pointer (some ⟨g, 0, none⟩))) (u32Vals (List.replicate 16 0)) 62 hF20 rfl rfl rfl rfl (by kernel_rfl) ?_)
  intro g21 w22 a27 hF28 z25 z26 b23 hx24; clear hF20
  refine wpl_op (i := 2) rfl (o_store (cells := (u32Vals (List.replicate 16 0))) hF28 rfl rfl rfl rfl (hF28.get rfl) (hF28.get rfl) b23 ((by kernel_rfl : (Tryd.prog.info? 62).map (·.size) = some 16).trans (congrArg some (u32Vals_len (show List.length (List.replicate 16 0) = _ from List.length_replicate)).symm)) ((u32Vals_len (show List.length (List.replicate 16 0) = _ from List.length_replicate)).trans (u32Vals_len (show List.length (List.replicate 16 0) = _ from List.length_replicate)).symm) (u32Vals_one _) ?_)
  intro w29 b30 hg31; have z32 := hg31.size
  refine wpList_nil ?_
  refine hK18 _ _ ?_
  clear hK18
  refine wp_seq_k (fun K33 hK33 => ?_)
  refine wp_seq_k (fun K34 hK34 => ?_)
  refine wp_region_lit ?_
  refine wpl_op (i := 0) rfl (o_val (v := (.int .i64 0)) hF28 rfl rfl rfl rfl (rn_assign rfl) ?_)
  intro a35 hF36; clear hF28
  refine wpList_nil ?_
  refine hK34 _ _ ?_
  clear hK34
  refine wp_block ?_
  have b37 : Blk w29 g2 48 (u32Vals h) := (((b4.ext hx13).ext hx24).grownN hg31 (by omega))
  have b38 : Blk w29 g10 48 (u32Vals (List.replicate 8 0)) := ((b12.ext hx24).grownN hg31 (by omega))
  refine wp_loop (fun a' W => ∃ (k : Nat) (m : List UInt32), Sl 182 [(0, (.agg (u32Vals h).toArray)), (1, (.slice A 64 c)), (2, (.int .u64 (n.toNat : Nat))), (3, (.bool last)), (4, (.pointer (some ⟨g2, 0, none⟩))), (8, (.pointer (some ⟨g10, 0, none⟩))), (9, (.pointer (some ⟨g21, 0, none⟩))), (10, (.int .i64 (k : Nat)))] a' ∧ k ≤ 64 ∧ m = wordsTo b k ∧ Ext w W ∧ Blk W g2 48 (u32Vals h) ∧ Blk W g10 48 (u32Vals (List.replicate 8 0)) ∧ Blk W g21 62 (u32Vals m) ∧ w29.heap.size ≤ W.heap.size) (fun a' _ => 64 - (intOf (a'.eval (.tmp 10))).toNat) ⟨0, (List.replicate 16 0), ((((((((hF36.nil.cons (q_get hF36 (t := 10) rfl (by first | rfl | (congr 1; omega) | (congr 1; done)))).cons (q_get hF36 (t := 9) rfl rfl)).cons (q_get hF36 (t := 8) rfl rfl)).cons (q_get hF36 (t := 4) rfl rfl)).cons (q_get hF36 (t := 3) rfl rfl)).cons (q_get hF36 (t := 2) rfl rfl)).cons (q_get hF36 (t := 1) rfl rfl)).cons (q_get hF36 (t := 0) rfl rfl)), (by omega), rfl, (((((Ext.refl w).trans hx5).trans hx13).trans hx24).grownN hg31 (by omega)), b37, b38, b30, (Nat.le_refl _)⟩ ?_
  clear hF36
  rintro a39 w40 ⟨k, m, hF41, hp43, hp44, hx42, b45, b46, b47, hf48⟩
  have hL49 := hF41
  have z50 := hx42.size
  have z51 := b45.lt
  have z52 := b46.lt
  have z53 := b47.lt
  have hm : m.length = 16 := by rw [hp44]; exact wordsTo_len _ _
  refine wp_seq_k (fun K54 hK54 => ?_)
  refine wp_seq_k (fun K55 hK55 => ?_)
  refine wp_region_lit ?_
  refine wpl_op (i := 0) rfl (o_val (v := (.int .i64 (k : Nat))) hF41 rfl rfl rfl rfl (rn_move (hF41.get rfl)) ?_)
  intro a56 hF57; clear hF41
  refine wpl_op (i := 1) rfl (o_val (v := (.bool (decide (((k : Nat) : Int) < (64 : Int))))) hF57 rfl rfl rfl rfl (rn_lss (hF57.get rfl) rfl) ?_)
  intro a58 hF59; clear hF57
  refine wpList_nil ?_
  refine hK55 _ _ ?_
  clear hK55
  by_cases hc60 : ((k : Nat) : Int) < (64 : Int)
  · skip
    refine wp_cond_true (c_true hF59 rfl (decide_eq_true hc60)) ?_
    refine wp_skip ?_
    refine hK54 _ _ ?_
    clear hK54
    refine wp_seq_k (fun K61 hK61 => ?_)
    refine wp_block ?_
    have hx63 : ∃ W, w40.drew = W ∧ Ext w40 W := ⟨_, rfl, (Ext.refl _).drew⟩
    obtain ⟨w62, e64, hx63⟩ := hx63
    have z65 := hx63.size
    refine any_start (fun W => Ext w62 W ∧ Blk W g21 62 (u32Vals m)) (fun i => i == 17) 18 #[false, false, false, false, false, false, false, false, false, false, false, false, false, false, false, false, false, false] rfl rfl rfl ?_
    rw [e64]; clear e64
    refine any_pure (i := 0) (v := (.int .i64 (k : Nat))) hF59 (by decide +kernel) (by decide +kernel) rfl rfl rfl rfl (fun _ _ _ _ h => h) rfl (fun W => (rn_move (hF59.get rfl))) ?_
    intro a66 hF67; clear hF59
    refine any_pure (i := 1) (v := (.int .i64 (k / 4 : Nat))) hF67 (by decide +kernel) (by decide +kernel) rfl rfl rfl rfl (fun _ _ _ _ h => h) rfl (fun W => (rn_quoN (a := k) (b := 4) (hF67.get rfl) rfl (by omega) (by omega))) ?_
    intro a68 hF69; clear hF67
    refine any_pure (i := 2) (v := (.int .i64 (k : Nat))) hF69 (by decide +kernel) (by decide +kernel) rfl rfl rfl rfl (fun _ _ _ _ h => h) rfl (fun W => (rn_move (hF69.get rfl))) ?_
    intro a70 hF71; clear hF69
    refine any_pure (i := 3) (v := (.int .i64 (k / 4 : Nat))) hF71 (by decide +kernel) (by decide +kernel) rfl rfl rfl rfl (fun _ _ _ _ h => h) rfl (fun W => (rn_quoN (a := k) (b := 4) (hF71.get rfl) rfl (by omega) (by omega))) ?_
    intro a72 hF73; clear hF71
    refine any_pure (i := 4) (v := (.pointer (some ⟨g21, 0 + (k / 4), none⟩))) hF73 (by decide +kernel) (by decide +kernel) rfl rfl rfl rfl (fun _ _ _ _ h => h) rfl (fun W => (rn_indexArr Tryd.underlying62 (by kernel_rfl : (Tryd.prog.info? 47).map (·.size) = some 1) (hF73.get rfl) (hF73.get rfl) (by omega : (0 : Int) ≤ (k / 4 : Nat)) (by omega : ((k / 4 : Nat) : Int) < ((16 : Nat) : Int)))) ?_
    intro a74 hF75; clear hF73
    have b77 : Blk w62 g21 62 (u32Vals m) := (b47.ext hx63)
    have hS76 : Ext w62 w62 ∧ Blk w62 g21 62 (u32Vals m) := ⟨(Ext.refl w62), b77⟩
    refine any_val (i := 5) (v := (.int .u32 ((m.getD (k / 4) 0).toNat : Nat))) hF75 (by decide +kernel) (by decide +kernel) rfl rfl rfl rfl (fun _ _ _ _ h => h) rfl hS76 (fun W hW => (rn_load (isAgg_no Tryd.underlying47 rfl) (hF75.get rfl) (blk_word hW.2 (by omega) (by have := (show List.length m = _ from hm); omega)))) ?_
    intro a78 hF79; clear hF75
    refine any_pure (i := 6) (v := (.slice A 64 c)) hF79 (by decide +kernel) (by decide +kernel) rfl rfl rfl rfl (fun _ _ _ _ h => h) rfl (fun W => (rn_move (hF79.get rfl))) ?_
    intro a80 hF81; clear hF79
    refine any_pure (i := 7) (v := (.int .i64 (k : Nat))) hF81 (by decide +kernel) (by decide +kernel) rfl rfl rfl rfl (fun _ _ _ _ h => h) rfl (fun W => (rn_move (hF81.get rfl))) ?_
    intro a82 hF83; clear hF81
    have d87 := ((hc.ext hx42).ext hx63)
    obtain ⟨b84, o85, hA86, -⟩ := Fl.at d87 (by omega)
    refine any_pure (i := 8) (v := (.pointer (some ⟨b84, o85 + k, none⟩))) hF83 (by decide +kernel) (by decide +kernel) rfl rfl rfl rfl (fun _ _ _ _ h => h) rfl (fun W => (rn_index1 Tryd.underlying22 (by kernel_rfl : (Tryd.prog.info? 5).map (·.size) = some 1) ((hF83.get rfl).trans (by rw [hA86])) (hF83.get rfl) (by omega : (0 : Int) ≤ (k : Nat)) (by omega : ((k : Nat) : Int) < ((64 : Nat) : Int)))) ?_
    intro a88 hF89; clear hF83
    refine any_val (i := 9) (v := (.int .u8 ((b.getD k 0).toNat : Nat))) hF89 (by decide +kernel) (by decide +kernel) rfl rfl rfl rfl (fun _ _ _ _ h => h) rfl hS76 (fun W hW => (rn_load (isAgg_no Tryd.underlying5 rfl) (hF89.get rfl) (Fl.cellAt (d87.ext hW.1) hA86 (byteVals_at (i := k) (by have := hbl; omega))))) ?_
    intro a90 hF91; clear hF89
    refine any_val (i := 10) (v := (.int .u32 (((b.getD k 0).toUInt32).toNat : Nat))) hF91 (by decide +kernel) (by decide +kernel) rfl rfl rfl rfl (fun _ _ _ _ h => h) rfl hS76 (fun W hW => (rn_convW Tryd.underlying5 Tryd.underlying47 (hF91.get rfl) (cv8_32 (b.getD k 0)))) ?_
    intro a92 hF93; clear hF91
    refine any_pure (i := 11) (v := (.int .i64 (k : Nat))) hF93 (by decide +kernel) (by decide +kernel) rfl rfl rfl rfl (fun _ _ _ _ h => h) rfl (fun W => (rn_move (hF93.get rfl))) ?_
    intro a94 hF95; clear hF93
    refine any_pure (i := 12) (v := (.int .i64 (k % 4 : Nat))) hF95 (by decide +kernel) (by decide +kernel) rfl rfl rfl rfl (fun _ _ _ _ h => h) rfl (fun W => (rn_remN (a := k) (b := 4) (hF95.get rfl) rfl (by omega))) ?_
    intro a96 hF97; clear hF95
    refine any_pure (i := 13) (v := (.int .i64 (8 * (k % 4) : Nat))) hF97 (by decide +kernel) (by decide +kernel) rfl rfl rfl rfl (fun _ _ _ _ h => h) rfl (fun W => (rn_mulN (a := 8) (b := k % 4) rfl (hF97.get rfl) (by omega))) ?_
    intro a98 hF99; clear hF97
    refine any_pure (i := 14) (v := (.int .u32 ((((b.getD k 0).toUInt32) <<< UInt32.ofNat (8 * (k % 4))).toNat : Nat))) hF99 (by decide +kernel) (by decide +kernel) rfl rfl rfl rfl (fun _ _ _ _ h => h) rfl (fun W => (rn_shl32 (a := ((b.getD k 0).toUInt32)) (n := (8 * (k % 4))) (hF99.get rfl) (hF99.get rfl) (by omega))) ?_
    intro a100 hF101; clear hF99
    refine any_pure (i := 15) (v := (.int .u32 (((m.getD (k / 4) 0) ||| (((b.getD k 0).toUInt32) <<< UInt32.ofNat (8 * (k % 4)))).toNat : Nat))) hF101 (by decide +kernel) (by decide +kernel) rfl rfl rfl rfl (fun _ _ _ _ h => h) rfl (fun W => (rn_or32 (a := (m.getD (k / 4) 0)) (b := (((b.getD k 0).toUInt32) <<< UInt32.ofNat (8 * (k % 4)))) (hF101.get rfl) (hF101.get rfl))) ?_
    intro a102 hF103; clear hF101
    refine any_pure (i := 16) (v := (.pointer (some ⟨g21, 0 + (k / 4), none⟩))) hF103 (by decide +kernel) (by decide +kernel) rfl rfl rfl rfl (fun _ _ _ _ h => h) rfl (fun W => (rn_indexArr Tryd.underlying62 (by kernel_rfl : (Tryd.prog.info? 47).map (·.size) = some 1) (hF103.get rfl) (hF103.get rfl) (by omega : (0 : Int) ≤ (k / 4 : Nat)) (by omega : ((k / 4 : Nat) : Int) < ((16 : Nat) : Int)))) ?_
    intro a104 hF105; clear hF103
    refine any_one (i := 17) (by decide +kernel) rfl ?_
    refine o_store1 (new := (u32Vals (m.set (k / 4) ((m.getD (k / 4) 0) ||| (((b.getD k 0).toUInt32) <<< UInt32.ofNat (8 * (k % 4))))))) hF105 rfl rfl rfl rfl (hF105.get rfl) (hF105.get rfl) b77 (by kernel_rfl : (Tryd.prog.info? 47).map (·.size) = some 1) (by rw [u32Vals_len hm]; omega) rfl (u32Vals_set (by omega)) ?_
    intro w106 b107 hg108; have z109 := hg108.size
    refine ⟨fun h => absurd h (by decide), ?_⟩
    refine any_nil (by decide +kernel) ?_
    refine hK61 _ _ ?_
    clear hK61
    have hF110 := (((((((((hF105.nil.cons (hF105.get (t := 22) (v := (.bool (decide (((k : Nat) : Int) < (64 : Int))))) rfl)).cons (hF105.get (t := 10) (v := (.int .i64 (k : Nat))) rfl)).cons (hF105.get (t := 9) (v := (.pointer (some ⟨g21, 0, none⟩))) rfl)).cons (hF105.get (t := 8) (v := (.pointer (some ⟨g10, 0, none⟩))) rfl)).cons (hF105.get (t := 4) (v := (.pointer (some ⟨g2, 0, none⟩))) rfl)).cons (hF105.get (t := 3) (v := (.bool last)) rfl)).cons (hF105.get (t := 2) (v := (.int .u64 (n.toNat : Nat))) rfl)).cons (hF105.get (t := 1) (v := (.slice A 64 c)) rfl)).cons (hF105.get (t := 0) (v := (.agg (u32Vals h).toArray)) rfl))
    clear hF105
    refine wp_region_lit ?_
    refine wpl_op (i := 0) rfl (o_val (v := (.int .i64 (k : Nat))) hF110 rfl rfl rfl rfl (rn_move (hF110.get rfl)) ?_)
    intro a111 hF112; clear hF110
    refine wpl_op (i := 1) rfl (o_val (v := (.int .i64 (k + 1 : Nat))) hF112 rfl rfl rfl rfl (rn_addN (a := k) (b := 1) (hF112.get rfl) rfl (by omega)) ?_)
    intro a113 hF114; clear hF112
    refine wpl_op (i := 2) rfl (o_val (v := (.int .i64 (k + 1 : Nat))) hF114 rfl rfl rfl rfl (rn_assign (hF114.get rfl)) ?_)
    intro a115 hF116; clear hF114
    refine wpList_nil ?_
    obtain ⟨v117, e118⟩ : ∃ z, z = m.set (k / 4) ((m.getD (k / 4) 0) ||| (((b.getD k 0).toUInt32) <<< UInt32.ofNat (8 * (k % 4)))) := ⟨_, rfl⟩
    have hl119 : v117.length = 16 := (congrArg List.length e118).trans (show List.length (m.set (k / 4) ((m.getD (k / 4) 0) ||| (((b.getD k 0).toUInt32) <<< UInt32.ofNat (8 * (k % 4))))) = _ from List.length_set.trans hm)
    rw [← e118] at b107
    have b120 : Blk w106 g2 48 (u32Vals h) := ((b45.ext hx63).grownN hg108 (by omega))
    have b121 : Blk w106 g10 48 (u32Vals (List.replicate 8 0)) := ((b46.ext hx63).grownN hg108 (by omega))
    refine ⟨⟨(k + 1), v117, ((((((((hF116.nil.cons (q_get hF116 (t := 10) rfl (by first | rfl | (congr 1; omega) | (congr 1; done)))).cons (q_get hF116 (t := 9) rfl rfl)).cons (q_get hF116 (t := 8) rfl rfl)).cons (q_get hF116 (t := 4) rfl rfl)).cons (q_get hF116 (t := 3) rfl rfl)).cons (q_get hF116 (t := 2) rfl rfl)).cons (q_get hF116 (t := 1) rfl rfl)).cons (q_get hF116 (t := 0) rfl rfl)), (by omega), (wordsTo_step hp44 e118), ((((Ext.refl w).trans hx42).trans hx63).grownN hg108 (by omega)), b120, b121, b107, (by omega)⟩, ?_⟩
    rw [hF116.get (t := 10) rfl, hL49.get (t := 10) rfl]; simp [intOf] <;> omega
  · skip
    refine wp_cond_false (c_false hF59 rfl (decide_eq_false hc60)) ?_
    refine wp_exit ?_
    refine exit_then ?_
    refine exit_then ?_
    refine exit_here ?_
    refine hK33 _ _ ?_
    clear hK33
    refine wp_seq_k (fun K122 hK122 => ?_)
    refine wp_region_lit ?_
    refine wpl_op (i := 0) rfl (o_val (v := (.agg (u32Vals (List.replicate 16 0)).toArray)) hF59 rfl rfl rfl rfl (rn_build parts0 (by kernel_rfl)) ?_)
    intro a123 hF124; clear hF59
    refine wpl_op (i := 1) rfl (o_new (fun g => (.pointer (some ⟨g, 0, none⟩))) (u32Vals (List.replicate 16 0)) 62 hF124 rfl rfl rfl rfl (by kernel_rfl) ?_)
    intro g125 w126 a131 hF132 z129 z130 b127 hx128; clear hF124
    refine wpl_op (i := 2) rfl (o_store (cells := (u32Vals (List.replicate 16 0))) hF132 rfl rfl rfl rfl (hF132.get rfl) (hF132.get rfl) b127 ((by kernel_rfl : (Tryd.prog.info? 62).map (·.size) = some 16).trans (congrArg some (u32Vals_len (show List.length (List.replicate 16 0) = _ from List.length_replicate)).symm)) ((u32Vals_len (show List.length (List.replicate 16 0) = _ from List.length_replicate)).trans (u32Vals_len (show List.length (List.replicate 16 0) = _ from List.length_replicate)).symm) (u32Vals_one _) ?_)
    intro w133 b134 hg135; have z136 := hg135.size
    refine wpList_nil ?_
    refine hK122 _ _ ?_
    clear hK122
    refine wp_seq_k (fun K137 hK137 => ?_)
    refine wp_region_lit ?_
    refine wpl_op (i := 0) rfl (o_call hF132 rfl rfl rfl rfl (rn_call (args0 ) rfl (by kernel_rfl)) (rinitial_any _) ?_)
    rintro _ w138 ⟨rfl, hx139⟩
    refine ⟨_, rfl, ?_⟩; intro a140 hF141; clear hF132; have z142 := hx139.size
    refine wpl_op (i := 1) rfl (o_new (fun g => (.pointer (some ⟨g, 0, none⟩))) (u32Vals (List.replicate 8 0)) 48 hF141 rfl rfl rfl rfl (by kernel_rfl) ?_)
    intro g143 w144 a149 hF150 z147 z148 b145 hx146; clear hF141
    refine wpl_op (i := 2) rfl (o_store (cells := (u32Vals iv)) hF150 rfl rfl rfl rfl (hF150.get rfl) (hF150.get rfl) b145 ((by kernel_rfl : (Tryd.prog.info? 48).map (·.size) = some 8).trans (congrArg some (u32Vals_len iv_len).symm)) ((u32Vals_len (show List.length (List.replicate 8 0) = _ from List.length_replicate)).trans (u32Vals_len iv_len).symm) (u32Vals_one _) ?_)
    intro w151 b152 hg153; have z154 := hg153.size
    refine wpList_nil ?_
    refine hK137 _ _ ?_
    clear hK137
    refine wp_seq_k (fun K155 hK155 => ?_)
    refine wp_seq_k (fun K156 hK156 => ?_)
    refine wp_region_lit ?_
    refine wpl_op (i := 0) rfl (o_val (v := (.int .i64 0)) hF150 rfl rfl rfl rfl (rn_assign rfl) ?_)
    intro a157 hF158; clear hF150
    refine wpList_nil ?_
    refine hK156 _ _ ?_
    clear hK156
    refine wp_block ?_
    have hmw : m = words b := words_eq hp44 (by omega)
    have b159 : Blk w151 g2 48 (u32Vals h) := (((((b45.ext hx128).grownN hg135 (by omega)).ext hx139).ext hx146).grownN hg153 (by omega))
    have b160 : Blk w151 g10 48 (u32Vals (List.replicate 8 0)) := (((((b46.ext hx128).grownN hg135 (by omega)).ext hx139).ext hx146).grownN hg153 (by omega))
    have b161 : Blk w151 g21 62 (u32Vals m) := (((((b47.ext hx128).grownN hg135 (by omega)).ext hx139).ext hx146).grownN hg153 (by omega))
    have b162 : Blk w151 g125 62 (u32Vals (List.replicate 16 0)) := (((b134.ext hx139).ext hx146).grownN hg153 (by omega))
    refine wp_loop (fun a' W => ∃ (k1 : Nat) (v0 : List UInt32), Sl 182 [(0, (.agg (u32Vals h).toArray)), (1, (.slice A 64 c)), (2, (.int .u64 (n.toNat : Nat))), (3, (.bool last)), (4, (.pointer (some ⟨g2, 0, none⟩))), (8, (.pointer (some ⟨g10, 0, none⟩))), (9, (.pointer (some ⟨g21, 0, none⟩))), (10, (.int .i64 (k : Nat))), (22, (.bool (decide (((k : Nat) : Int) < (64 : Int))))), (11, (.pointer (some ⟨g125, 0, none⟩))), (12, (.pointer (some ⟨g143, 0, none⟩))), (13, (.int .i64 (k1 : Nat)))] a' ∧ k1 ≤ 8 ∧ v0 = vTo h k1 ∧ Ext w W ∧ Blk W g2 48 (u32Vals h) ∧ Blk W g10 48 (u32Vals (List.replicate 8 0)) ∧ Blk W g21 62 (u32Vals m) ∧ Blk W g125 62 (u32Vals v0) ∧ Blk W g143 48 (u32Vals iv) ∧ w151.heap.size ≤ W.heap.size) (fun a' _ => 8 - (intOf (a'.eval (.tmp 13))).toNat) ⟨0, (List.replicate 16 0), ((((((((((((hF158.nil.cons (q_get hF158 (t := 13) rfl (by first | rfl | (congr 1; omega) | (congr 1; done)))).cons (q_get hF158 (t := 12) rfl rfl)).cons (q_get hF158 (t := 11) rfl rfl)).cons (q_get hF158 (t := 22) rfl rfl)).cons (q_get hF158 (t := 10) rfl rfl)).cons (q_get hF158 (t := 9) rfl rfl)).cons (q_get hF158 (t := 8) rfl rfl)).cons (q_get hF158 (t := 4) rfl rfl)).cons (q_get hF158 (t := 3) rfl rfl)).cons (q_get hF158 (t := 2) rfl rfl)).cons (q_get hF158 (t := 1) rfl rfl)).cons (q_get hF158 (t := 0) rfl rfl)), (by omega), rfl, (((((((Ext.refl w).trans hx42).trans hx128).grownN hg135 (by omega)).trans hx139).trans hx146).grownN hg153 (by omega)), b159, b160, b161, b162, b152, (Nat.le_refl _)⟩ ?_
    clear hF158
    rintro a163 w164 ⟨k1, v0, hF165, hp167, hp168, hx166, b169, b170, b171, b172, b173, hf174⟩
    have hL175 := hF165
    have z176 := hx166.size
    have z177 := b169.lt
    have z178 := b170.lt
    have z179 := b171.lt
    have z180 := b172.lt
    have z181 := b173.lt
    have hvl0 : v0.length = 16 := by rw [hp168]; exact vTo_len hh (by omega)
    refine wp_seq_k (fun K182 hK182 => ?_)
    refine wp_seq_k (fun K183 hK183 => ?_)
    refine wp_region_lit ?_
    refine wpl_op (i := 0) rfl (o_val (v := (.int .i64 (k1 : Nat))) hF165 rfl rfl rfl rfl (rn_move (hF165.get rfl)) ?_)
    intro a184 hF185; clear hF165
    refine wpl_op (i := 1) rfl (o_val (v := (.bool (decide (((k1 : Nat) : Int) < (8 : Int))))) hF185 rfl rfl rfl rfl (rn_lss (hF185.get rfl) rfl) ?_)
    intro a186 hF187; clear hF185
    refine wpList_nil ?_
    refine hK183 _ _ ?_
    clear hK183
    by_cases hc188 : ((k1 : Nat) : Int) < (8 : Int)
    · skip
      refine wp_cond_true (c_true hF187 rfl (decide_eq_true hc188)) ?_
      refine wp_skip ?_
      refine hK182 _ _ ?_
      clear hK182
      refine wp_seq_k (fun K189 hK189 => ?_)
      refine wp_block ?_
      refine wp_seq_k (fun K190 hK190 => ?_)
      refine wp_region_lit ?_
      refine wpl_op (i := 0) rfl (o_val (v := (.int .i64 (k1 : Nat))) hF187 rfl rfl rfl rfl (rn_move (hF187.get rfl)) ?_)
      intro a191 hF192; clear hF187
      refine wpl_op (i := 1) rfl (o_val (v := (.int .i64 (k1 : Nat))) hF192 rfl rfl rfl rfl (rn_move (hF192.get rfl)) ?_)
      intro a193 hF194; clear hF192
      refine wpl_op (i := 2) rfl (o_val (v := (.pointer (some ⟨g2, 0 + k1, none⟩))) hF194 rfl rfl rfl rfl (rn_indexArr Tryd.underlying48 (by kernel_rfl : (Tryd.prog.info? 47).map (·.size) = some 1) (hF194.get rfl) (hF194.get rfl) (by omega : (0 : Int) ≤ (k1 : Nat)) (by omega : ((k1 : Nat) : Int) < ((8 : Nat) : Int))) ?_)
      intro a195 hF196; clear hF194
      refine wpl_op (i := 3) rfl (o_val (v := (.int .u32 ((h.getD k1 0).toNat : Nat))) hF196 rfl rfl rfl rfl (rn_load (isAgg_no Tryd.underlying47 rfl) (hF196.get rfl) (blk_word b169 (by omega) (by have := (show List.length h = _ from hh); omega))) ?_)
      intro a197 hF198; clear hF196
      refine wpl_op (i := 4) rfl (o_val (v := (.pointer (some ⟨g125, 0 + k1, none⟩))) hF198 rfl rfl rfl rfl (rn_indexArr Tryd.underlying62 (by kernel_rfl : (Tryd.prog.info? 47).map (·.size) = some 1) (hF198.get rfl) (hF198.get rfl) (by omega : (0 : Int) ≤ (k1 : Nat)) (by omega : ((k1 : Nat) : Int) < ((16 : Nat) : Int))) ?_)
      intro a199 hF200; clear hF198
      refine wpl_op (i := 5) rfl (o_store1 (new := (u32Vals (v0.set k1 (h.getD k1 0)))) hF200 rfl rfl rfl rfl (hF200.get rfl) (hF200.get rfl) b172 (by kernel_rfl : (Tryd.prog.info? 47).map (·.size) = some 1) (by rw [u32Vals_len hvl0]; omega) rfl (u32Vals_set (by omega)) ?_)
      intro w201 b202 hg203; have z204 := hg203.size
      refine wpList_nil ?_
      refine hK190 _ _ ?_
      clear hK190
      have hF205 := (((((((((((((hF200.nil.cons (hF200.get (t := 45) (v := (.bool (decide (((k1 : Nat) : Int) < (8 : Int))))) rfl)).cons (hF200.get (t := 13) (v := (.int .i64 (k1 : Nat))) rfl)).cons (hF200.get (t := 12) (v := (.pointer (some ⟨g143, 0, none⟩))) rfl)).cons (hF200.get (t := 11) (v := (.pointer (some ⟨g125, 0, none⟩))) rfl)).cons (hF200.get (t := 22) (v := (.bool (decide (((k : Nat) : Int) < (64 : Int))))) rfl)).cons (hF200.get (t := 10) (v := (.int .i64 (k : Nat))) rfl)).cons (hF200.get (t := 9) (v := (.pointer (some ⟨g21, 0, none⟩))) rfl)).cons (hF200.get (t := 8) (v := (.pointer (some ⟨g10, 0, none⟩))) rfl)).cons (hF200.get (t := 4) (v := (.pointer (some ⟨g2, 0, none⟩))) rfl)).cons (hF200.get (t := 3) (v := (.bool last)) rfl)).cons (hF200.get (t := 2) (v := (.int .u64 (n.toNat : Nat))) rfl)).cons (hF200.get (t := 1) (v := (.slice A 64 c)) rfl)).cons (hF200.get (t := 0) (v := (.agg (u32Vals h).toArray)) rfl))
      clear hF200
      refine wp_region_lit ?_
      refine wpl_op (i := 0) rfl (o_val (v := (.int .i64 (k1 : Nat))) hF205 rfl rfl rfl rfl (rn_move (hF205.get rfl)) ?_)
      intro a206 hF207; clear hF205
      refine wpl_op (i := 1) rfl (o_val (v := (.int .i64 (8 + k1 : Nat))) hF207 rfl rfl rfl rfl (rn_addN (a := 8) (b := k1) rfl (hF207.get rfl) (by omega)) ?_)
      intro a208 hF209; clear hF207
      refine wpl_op (i := 2) rfl (o_val (v := (.int .i64 (k1 : Nat))) hF209 rfl rfl rfl rfl (rn_move (hF209.get rfl)) ?_)
      intro a210 hF211; clear hF209
      refine wpl_op (i := 3) rfl (o_val (v := (.pointer (some ⟨g143, 0 + k1, none⟩))) hF211 rfl rfl rfl rfl (rn_indexArr Tryd.underlying48 (by kernel_rfl : (Tryd.prog.info? 47).map (·.size) = some 1) (hF211.get rfl) (hF211.get rfl) (by omega : (0 : Int) ≤ (k1 : Nat)) (by omega : ((k1 : Nat) : Int) < ((8 : Nat) : Int))) ?_)
      intro a212 hF213; clear hF211
      have b214 : Blk w201 g143 48 (u32Vals iv) := (b173.grownN hg203 (by omega))
      refine wpl_op (i := 4) rfl (o_val (v := (.int .u32 ((iv.getD k1 0).toNat : Nat))) hF213 rfl rfl rfl rfl (rn_load (isAgg_no Tryd.underlying47 rfl) (hF213.get rfl) (blk_word b214 (by omega) (by have := (show List.length iv = _ from iv_len); omega))) ?_)
      intro a215 hF216; clear hF213
      refine wpl_op (i := 5) rfl (o_val (v := (.pointer (some ⟨g125, 0 + (8 + k1), none⟩))) hF216 rfl rfl rfl rfl (rn_indexArr Tryd.underlying62 (by kernel_rfl : (Tryd.prog.info? 47).map (·.size) = some 1) (hF216.get rfl) (hF216.get rfl) (by omega : (0 : Int) ≤ (8 + k1 : Nat)) (by omega : ((8 + k1 : Nat) : Int) < ((16 : Nat) : Int))) ?_)
      intro a217 hF218; clear hF216
      refine wpl_op (i := 6) rfl (o_store1 (new := (u32Vals ((v0.set k1 (h.getD k1 0)).set (8 + k1) (iv.getD k1 0)))) hF218 rfl rfl rfl rfl (hF218.get rfl) (hF218.get rfl) b202 (by kernel_rfl : (Tryd.prog.info? 47).map (·.size) = some 1) (by rw [u32Vals_len (show List.length (v0.set k1 (h.getD k1 0)) = _ from List.length_set.trans hvl0)]; omega) rfl (u32Vals_set (by omega)) ?_)
      intro w219 b220 hg221; have z222 := hg221.size
      refine wpList_nil ?_
      refine hK189 _ _ ?_
      clear hK189
      have hF223 := (((((((((((((hF218.nil.cons (hF218.get (t := 45) (v := (.bool (decide (((k1 : Nat) : Int) < (8 : Int))))) rfl)).cons (hF218.get (t := 13) (v := (.int .i64 (k1 : Nat))) rfl)).cons (hF218.get (t := 12) (v := (.pointer (some ⟨g143, 0, none⟩))) rfl)).cons (hF218.get (t := 11) (v := (.pointer (some ⟨g125, 0, none⟩))) rfl)).cons (hF218.get (t := 22) (v := (.bool (decide (((k : Nat) : Int) < (64 : Int))))) rfl)).cons (hF218.get (t := 10) (v := (.int .i64 (k : Nat))) rfl)).cons (hF218.get (t := 9) (v := (.pointer (some ⟨g21, 0, none⟩))) rfl)).cons (hF218.get (t := 8) (v := (.pointer (some ⟨g10, 0, none⟩))) rfl)).cons (hF218.get (t := 4) (v := (.pointer (some ⟨g2, 0, none⟩))) rfl)).cons (hF218.get (t := 3) (v := (.bool last)) rfl)).cons (hF218.get (t := 2) (v := (.int .u64 (n.toNat : Nat))) rfl)).cons (hF218.get (t := 1) (v := (.slice A 64 c)) rfl)).cons (hF218.get (t := 0) (v := (.agg (u32Vals h).toArray)) rfl))
      clear hF218
      refine wp_region_lit ?_
      refine wpl_op (i := 0) rfl (o_val (v := (.int .i64 (k1 : Nat))) hF223 rfl rfl rfl rfl (rn_move (hF223.get rfl)) ?_)
      intro a224 hF225; clear hF223
      refine wpl_op (i := 1) rfl (o_val (v := (.int .i64 (k1 + 1 : Nat))) hF225 rfl rfl rfl rfl (rn_addN (a := k1) (b := 1) (hF225.get rfl) rfl (by omega)) ?_)
      intro a226 hF227; clear hF225
      refine wpl_op (i := 2) rfl (o_val (v := (.int .i64 (k1 + 1 : Nat))) hF227 rfl rfl rfl rfl (rn_assign (hF227.get rfl)) ?_)
      intro a228 hF229; clear hF227
      refine wpList_nil ?_
      obtain ⟨v230, e231⟩ : ∃ z, z = (v0.set k1 (h.getD k1 0)).set (8 + k1) (iv.getD k1 0) := ⟨_, rfl⟩
      have hl232 : v230.length = 16 := (congrArg List.length e231).trans (show List.length ((v0.set k1 (h.getD k1 0)).set (8 + k1) (iv.getD k1 0)) = _ from List.length_set.trans (show List.length (v0.set k1 (h.getD k1 0)) = _ from List.length_set.trans hvl0))
      rw [← e231] at b220
      have b233 : Blk w219 g2 48 (u32Vals h) := ((b169.grownN hg203 (by omega)).grownN hg221 (by omega))
      have b234 : Blk w219 g10 48 (u32Vals (List.replicate 8 0)) := ((b170.grownN hg203 (by omega)).grownN hg221 (by omega))
      have b235 : Blk w219 g21 62 (u32Vals m) := ((b171.grownN hg203 (by omega)).grownN hg221 (by omega))
      have b236 : Blk w219 g143 48 (u32Vals iv) := (b214.grownN hg221 (by omega))
      refine ⟨⟨(k1 + 1), v230, ((((((((((((hF229.nil.cons (q_get hF229 (t := 13) rfl (by first | rfl | (congr 1; omega) | (congr 1; done)))).cons (q_get hF229 (t := 12) rfl rfl)).cons (q_get hF229 (t := 11) rfl rfl)).cons (q_get hF229 (t := 22) rfl rfl)).cons (q_get hF229 (t := 10) rfl rfl)).cons (q_get hF229 (t := 9) rfl rfl)).cons (q_get hF229 (t := 8) rfl rfl)).cons (q_get hF229 (t := 4) rfl rfl)).cons (q_get hF229 (t := 3) rfl rfl)).cons (q_get hF229 (t := 2) rfl rfl)).cons (q_get hF229 (t := 1) rfl rfl)).cons (q_get hF229 (t := 0) rfl rfl)), (by omega), (vTo_step hh (by omega) hp168 e231), ((((Ext.refl w).trans hx166).grownN hg203 (by omega)).grownN hg221 (by omega)), b233, b234, b235, b220, b236, (by omega)⟩, ?_⟩
      rw [hF229.get (t := 13) rfl, hL175.get (t := 13) rfl]; simp [intOf] <;> omega
    · skip
      refine wp_cond_false (c_false hF187 rfl (decide_eq_false hc188)) ?_
      refine wp_exit ?_
      refine exit_then ?_
      refine exit_then ?_
      refine exit_here ?_
      refine hK155 _ _ ?_
      clear hK155
      refine wp_seq_k (fun K237 hK237 => ?_)
      refine wp_region_lit ?_
      refine wpl_op (i := 0) rfl (o_val (v := (.pointer (some ⟨g125, 0 + 12, none⟩))) hF187 rfl rfl rfl rfl (rn_indexArr Tryd.underlying62 (by kernel_rfl : (Tryd.prog.info? 47).map (·.size) = some 1) (hF187.get rfl) rfl (by omega : (0 : Int) ≤ 12) (by omega : (12 : Int) < ((16 : Nat) : Int))) ?_)
      intro a238 hF239; clear hF187
      refine wpl_op (i := 1) rfl (o_val (v := (.int .u32 ((v0.getD 12 0).toNat : Nat))) hF239 rfl rfl rfl rfl (rn_load (isAgg_no Tryd.underlying47 rfl) (hF239.get rfl) (blk_word b172 (by omega) (by have := (show List.length v0 = _ from hvl0); omega))) ?_)
      intro a240 hF241; clear hF239
      refine wpl_op (i := 2) rfl (o_val (v := (.int .u64 (n.toNat : Nat))) hF241 rfl rfl rfl rfl (rn_move (hF241.get rfl)) ?_)
      intro a242 hF243; clear hF241
      refine wpl_op (i := 3) rfl (o_val (v := (.int .u32 (n.toUInt32.toNat : Nat))) hF243 rfl rfl rfl rfl (rn_convW Tryd.underlying49 Tryd.underlying47 (hF243.get rfl) (cv64_32 n)) ?_)
      intro a244 hF245; clear hF243
      refine wpl_op (i := 4) rfl (o_val (v := (.int .u32 (((v0.getD 12 0) ^^^ n.toUInt32).toNat : Nat))) hF245 rfl rfl rfl rfl (rn_xor32 (a := (v0.getD 12 0)) (b := n.toUInt32) (hF245.get rfl) (hF245.get rfl)) ?_)
      intro a246 hF247; clear hF245
      refine wpl_op (i := 5) rfl (o_val (v := (.pointer (some ⟨g125, 0 + 12, none⟩))) hF247 rfl rfl rfl rfl (rn_indexArr Tryd.underlying62 (by kernel_rfl : (Tryd.prog.info? 47).map (·.size) = some 1) (hF247.get rfl) rfl (by omega : (0 : Int) ≤ 12) (by omega : (12 : Int) < ((16 : Nat) : Int))) ?_)
      intro a248 hF249; clear hF247
      refine wpl_op (i := 6) rfl (o_store1 (new := (u32Vals (v0.set 12 ((v0.getD 12 0) ^^^ n.toUInt32)))) hF249 rfl rfl rfl rfl (hF249.get rfl) (hF249.get rfl) b172 (by kernel_rfl : (Tryd.prog.info? 47).map (·.size) = some 1) (by rw [u32Vals_len hvl0]; omega) rfl (u32Vals_set (by omega)) ?_)
      intro w250 b251 hg252; have z253 := hg252.size
      refine wpList_nil ?_
      refine hK237 _ _ ?_
      clear hK237
      have hF254 := (((((((((((((hF249.nil.cons (hF249.get (t := 45) (v := (.bool (decide (((k1 : Nat) : Int) < (8 : Int))))) rfl)).cons (hF249.get (t := 13) (v := (.int .i64 (k1 : Nat))) rfl)).cons (hF249.get (t := 12) (v := (.pointer (some ⟨g143, 0, none⟩))) rfl)).cons (hF249.get (t := 11) (v := (.pointer (some ⟨g125, 0, none⟩))) rfl)).cons (hF249.get (t := 22) (v := (.bool (decide (((k : Nat) : Int) < (64 : Int))))) rfl)).cons (hF249.get (t := 10) (v := (.int .i64 (k : Nat))) rfl)).cons (hF249.get (t := 9) (v := (.pointer (some ⟨g21, 0, none⟩))) rfl)).cons (hF249.get (t := 8) (v := (.pointer (some ⟨g10, 0, none⟩))) rfl)).cons (hF249.get (t := 4) (v := (.pointer (some ⟨g2, 0, none⟩))) rfl)).cons (hF249.get (t := 3) (v := (.bool last)) rfl)).cons (hF249.get (t := 2) (v := (.int .u64 (n.toNat : Nat))) rfl)).cons (hF249.get (t := 1) (v := (.slice A 64 c)) rfl)).cons (hF249.get (t := 0) (v := (.agg (u32Vals h).toArray)) rfl))
      clear hF249
      refine wp_seq_k (fun K255 hK255 => ?_)
      refine wp_region_lit ?_
      refine wpl_op (i := 0) rfl (o_val (v := (.pointer (some ⟨g125, 0 + 13, none⟩))) hF254 rfl rfl rfl rfl (rn_indexArr Tryd.underlying62 (by kernel_rfl : (Tryd.prog.info? 47).map (·.size) = some 1) (hF254.get rfl) rfl (by omega : (0 : Int) ≤ 13) (by omega : (13 : Int) < ((16 : Nat) : Int))) ?_)
      intro a256 hF257; clear hF254
      refine wpl_op (i := 1) rfl (o_val (v := (.int .u32 (((v0.set 12 ((v0.getD 12 0) ^^^ n.toUInt32)).getD 13 0).toNat : Nat))) hF257 rfl rfl rfl rfl (rn_load (isAgg_no Tryd.underlying47 rfl) (hF257.get rfl) (blk_word b251 (by omega) (by have := (show List.length (v0.set 12 ((v0.getD 12 0) ^^^ n.toUInt32)) = _ from (show List.length (v0.set 12 ((v0.getD 12 0) ^^^ n.toUInt32)) = _ from List.length_set.trans hvl0)); omega))) ?_)
      intro a258 hF259; clear hF257
      refine wpl_op (i := 2) rfl (o_val (v := (.int .u64 (n.toNat : Nat))) hF259 rfl rfl rfl rfl (rn_move (hF259.get rfl)) ?_)
      intro a260 hF261; clear hF259
      refine wpl_op (i := 3) rfl (o_val (v := (.int .u64 ((n >>> UInt64.ofNat 32).toNat : Nat))) hF261 rfl rfl rfl rfl (rn_shr64 (a := n) (n := 32) (hF261.get rfl) rfl (by omega)) ?_)
      intro a262 hF263; clear hF261
      refine wpl_op (i := 4) rfl (o_val (v := (.int .u32 (((n >>> UInt64.ofNat 32).toUInt32).toNat : Nat))) hF263 rfl rfl rfl rfl (rn_convW Tryd.underlying49 Tryd.underlying47 (hF263.get rfl) (cv64_32 (n >>> UInt64.ofNat 32))) ?_)
      intro a264 hF265; clear hF263
      refine wpl_op (i := 5) rfl (o_val (v := (.int .u32 ((((v0.set 12 ((v0.getD 12 0) ^^^ n.toUInt32)).getD 13 0) ^^^ ((n >>> UInt64.ofNat 32).toUInt32)).toNat : Nat))) hF265 rfl rfl rfl rfl (rn_xor32 (a := ((v0.set 12 ((v0.getD 12 0) ^^^ n.toUInt32)).getD 13 0)) (b := ((n >>> UInt64.ofNat 32).toUInt32)) (hF265.get rfl) (hF265.get rfl)) ?_)
      intro a266 hF267; clear hF265
      refine wpl_op (i := 6) rfl (o_val (v := (.pointer (some ⟨g125, 0 + 13, none⟩))) hF267 rfl rfl rfl rfl (rn_indexArr Tryd.underlying62 (by kernel_rfl : (Tryd.prog.info? 47).map (·.size) = some 1) (hF267.get rfl) rfl (by omega : (0 : Int) ≤ 13) (by omega : (13 : Int) < ((16 : Nat) : Int))) ?_)
      intro a268 hF269; clear hF267
      refine wpl_op (i := 7) rfl (o_store1 (new := (u32Vals ((v0.set 12 ((v0.getD 12 0) ^^^ n.toUInt32)).set 13 (((v0.set 12 ((v0.getD 12 0) ^^^ n.toUInt32)).getD 13 0) ^^^ ((n >>> UInt64.ofNat 32).toUInt32))))) hF269 rfl rfl rfl rfl (hF269.get rfl) (hF269.get rfl) b251 (by kernel_rfl : (Tryd.prog.info? 47).map (·.size) = some 1) (by rw [u32Vals_len (show List.length (v0.set 12 ((v0.getD 12 0) ^^^ n.toUInt32)) = _ from List.length_set.trans hvl0)]; omega) rfl (u32Vals_set (by omega)) ?_)
      intro w270 b271 hg272; have z273 := hg272.size
      refine wpList_nil ?_
      refine hK255 _ _ ?_
      clear hK255
      have hF274 := (((((((((((((hF269.nil.cons (hF269.get (t := 45) (v := (.bool (decide (((k1 : Nat) : Int) < (8 : Int))))) rfl)).cons (hF269.get (t := 13) (v := (.int .i64 (k1 : Nat))) rfl)).cons (hF269.get (t := 12) (v := (.pointer (some ⟨g143, 0, none⟩))) rfl)).cons (hF269.get (t := 11) (v := (.pointer (some ⟨g125, 0, none⟩))) rfl)).cons (hF269.get (t := 22) (v := (.bool (decide (((k : Nat) : Int) < (64 : Int))))) rfl)).cons (hF269.get (t := 10) (v := (.int .i64 (k : Nat))) rfl)).cons (hF269.get (t := 9) (v := (.pointer (some ⟨g21, 0, none⟩))) rfl)).cons (hF269.get (t := 8) (v := (.pointer (some ⟨g10, 0, none⟩))) rfl)).cons (hF269.get (t := 4) (v := (.pointer (some ⟨g2, 0, none⟩))) rfl)).cons (hF269.get (t := 3) (v := (.bool last)) rfl)).cons (hF269.get (t := 2) (v := (.int .u64 (n.toNat : Nat))) rfl)).cons (hF269.get (t := 1) (v := (.slice A 64 c)) rfl)).cons (hF269.get (t := 0) (v := (.agg (u32Vals h).toArray)) rfl))
      clear hF269
      refine wp_seq_k (fun K275 hK275 => ?_)
      refine wp_seq_k (fun K276 hK276 => ?_)
      refine wp_region_lit ?_
      refine wpl_op (i := 0) rfl (o_val (v := (.bool last)) hF274 rfl rfl rfl rfl (rn_move (hF274.get rfl)) ?_)
      intro a277 hF278; clear hF274
      refine wpList_nil ?_
      refine hK276 _ _ ?_
      clear hK276
      rcases Bool.eq_false_or_eq_true last with hc279 | hc279
      · skip
        refine wp_cond_true (c_true hF278 rfl hc279) ?_
        refine wp_region_lit ?_
        refine wpl_op (i := 0) rfl (o_val (v := (.pointer (some ⟨g125, 0 + 14, none⟩))) hF278 rfl rfl rfl rfl (rn_indexArr Tryd.underlying62 (by kernel_rfl : (Tryd.prog.info? 47).map (·.size) = some 1) (hF278.get rfl) rfl (by omega : (0 : Int) ≤ 14) (by omega : (14 : Int) < ((16 : Nat) : Int))) ?_)
        intro a280 hF281; clear hF278
        refine wpl_op (i := 1) rfl (o_val (v := (.int .u32 ((((v0.set 12 ((v0.getD 12 0) ^^^ n.toUInt32)).set 13 (((v0.set 12 ((v0.getD 12 0) ^^^ n.toUInt32)).getD 13 0) ^^^ ((n >>> UInt64.ofNat 32).toUInt32))).getD 14 0).toNat : Nat))) hF281 rfl rfl rfl rfl (rn_load (isAgg_no Tryd.underlying47 rfl) (hF281.get rfl) (blk_word b271 (by omega) (by have := (show List.length ((v0.set 12 ((v0.getD 12 0) ^^^ n.toUInt32)).set 13 (((v0.set 12 ((v0.getD 12 0) ^^^ n.toUInt32)).getD 13 0) ^^^ ((n >>> UInt64.ofNat 32).toUInt32))) = _ from (show List.length ((v0.set 12 ((v0.getD 12 0) ^^^ n.toUInt32)).set 13 (((v0.set 12 ((v0.getD 12 0) ^^^ n.toUInt32)).getD 13 0) ^^^ ((n >>> UInt64.ofNat 32).toUInt32))) = _ from List.length_set.trans (show List.length (v0.set 12 ((v0.getD 12 0) ^^^ n.toUInt32)) = _ from List.length_set.trans hvl0))); omega))) ?_)
        intro a282 hF283; clear hF281
        refine wpl_op (i := 2) rfl (o_val (v := (.int .u32 (((((v0.set 12 ((v0.getD 12 0) ^^^ n.toUInt32)).set 13 (((v0.set 12 ((v0.getD 12 0) ^^^ n.toUInt32)).getD 13 0) ^^^ ((n >>> UInt64.ofNat 32).toUInt32))).getD 14 0) ^^^ (4294967295 : UInt32)).toNat : Nat))) hF283 rfl rfl rfl rfl (rn_xor32 (a := (((v0.set 12 ((v0.getD 12 0) ^^^ n.toUInt32)).set 13 (((v0.set 12 ((v0.getD 12 0) ^^^ n.toUInt32)).getD 13 0) ^^^ ((n >>> UInt64.ofNat 32).toUInt32))).getD 14 0)) (b := (4294967295 : UInt32)) (hF283.get rfl) rfl) ?_)
        intro a284 hF285; clear hF283
        refine wpl_op (i := 3) rfl (o_val (v := (.pointer (some ⟨g125, 0 + 14, none⟩))) hF285 rfl rfl rfl rfl (rn_indexArr Tryd.underlying62 (by kernel_rfl : (Tryd.prog.info? 47).map (·.size) = some 1) (hF285.get rfl) rfl (by omega : (0 : Int) ≤ 14) (by omega : (14 : Int) < ((16 : Nat) : Int))) ?_)
        intro a286 hF287; clear hF285
        refine wpl_op (i := 4) rfl (o_store1 (new := (u32Vals (((v0.set 12 ((v0.getD 12 0) ^^^ n.toUInt32)).set 13 (((v0.set 12 ((v0.getD 12 0) ^^^ n.toUInt32)).getD 13 0) ^^^ ((n >>> UInt64.ofNat 32).toUInt32))).set 14 ((((v0.set 12 ((v0.getD 12 0) ^^^ n.toUInt32)).set 13 (((v0.set 12 ((v0.getD 12 0) ^^^ n.toUInt32)).getD 13 0) ^^^ ((n >>> UInt64.ofNat 32).toUInt32))).getD 14 0) ^^^ (4294967295 : UInt32))))) hF287 rfl rfl rfl rfl (hF287.get rfl) (hF287.get rfl) b271 (by kernel_rfl : (Tryd.prog.info? 47).map (·.size) = some 1) (by rw [u32Vals_len (show List.length ((v0.set 12 ((v0.getD 12 0) ^^^ n.toUInt32)).set 13 (((v0.set 12 ((v0.getD 12 0) ^^^ n.toUInt32)).getD 13 0) ^^^ ((n >>> UInt64.ofNat 32).toUInt32))) = _ from List.length_set.trans (show List.length (v0.set 12 ((v0.getD 12 0) ^^^ n.toUInt32)) = _ from List.length_set.trans hvl0))]; omega) rfl (u32Vals_set (by omega)) ?_)
        intro w288 b289 hg290; have z291 := hg290.size
        refine wpList_nil ?_
        refine hK275 _ _ ?_
        clear hK275
        have hF292 := ((((((((((((((hF287.nil.cons (hF287.get (t := 72) (v := (.bool last)) rfl)).cons (hF287.get (t := 45) (v := (.bool (decide (((k1 : Nat) : Int) < (8 : Int))))) rfl)).cons (hF287.get (t := 13) (v := (.int .i64 (k1 : Nat))) rfl)).cons (hF287.get (t := 12) (v := (.pointer (some ⟨g143, 0, none⟩))) rfl)).cons (hF287.get (t := 11) (v := (.pointer (some ⟨g125, 0, none⟩))) rfl)).cons (hF287.get (t := 22) (v := (.bool (decide (((k : Nat) : Int) < (64 : Int))))) rfl)).cons (hF287.get (t := 10) (v := (.int .i64 (k : Nat))) rfl)).cons (hF287.get (t := 9) (v := (.pointer (some ⟨g21, 0, none⟩))) rfl)).cons (hF287.get (t := 8) (v := (.pointer (some ⟨g10, 0, none⟩))) rfl)).cons (hF287.get (t := 4) (v := (.pointer (some ⟨g2, 0, none⟩))) rfl)).cons (hF287.get (t := 3) (v := (.bool last)) rfl)).cons (hF287.get (t := 2) (v := (.int .u64 (n.toNat : Nat))) rfl)).cons (hF287.get (t := 1) (v := (.slice A 64 c)) rfl)).cons (hF287.get (t := 0) (v := (.agg (u32Vals h).toArray)) rfl))
        clear hF287
        refine wp_seq_k (fun K293 hK293 => ?_)
        refine wp_region_lit ?_
        refine wpl_op (i := 0) rfl (o_call hF292 rfl rfl rfl rfl (rn_call (args0 ) rfl (by kernel_rfl)) (rperm_any _) ?_)
        rintro _ w294 ⟨rfl, hx295⟩
        refine ⟨_, rfl, ?_⟩; intro a296 hF297; clear hF292; have z298 := hx295.size
        refine wpl_op (i := 1) rfl (o_new (fun g => (.pointer (some ⟨g, 0, none⟩))) (intVals (List.replicate 160 0)) 70 hF297 rfl rfl rfl rfl (by kernel_rfl) ?_)
        intro g299 w300 a305 hF306 z303 z304 b301 hx302; clear hF297
        refine wpl_op (i := 2) rfl (o_store (cells := (intVals permI)) hF306 rfl rfl rfl rfl (hF306.get rfl) (hF306.get rfl) b301 ((by kernel_rfl : (Tryd.prog.info? 70).map (·.size) = some 160).trans (congrArg some (intVals_len permI_len).symm)) ((intVals_len (show List.length (List.replicate 160 0) = _ from List.length_replicate)).trans (intVals_len permI_len).symm) (intVals_one _) ?_)
        intro w307 b308 hg309; have z310 := hg309.size
        refine wpList_nil ?_
        refine hK293 _ _ ?_
        clear hK293
        refine wp_seq_k (fun K311 hK311 => ?_)
        refine wp_seq_k (fun K312 hK312 => ?_)
        refine wp_region_lit ?_
        refine wpl_op (i := 0) rfl (o_val (v := (.int .i64 0)) hF306 rfl rfl rfl rfl (rn_assign rfl) ?_)
        intro a313 hF314; clear hF306
        refine wpList_nil ?_
        refine hK312 _ _ ?_
        clear hK312
        refine wp_block ?_
        have hv0 : v0 = h ++ iv := vTo_done hh (by rw [hp168, show k1 = 8 by omega])
        have b318 : Blk w307 g125 62 (u32Vals (((v0.set 12 ((v0.getD 12 0) ^^^ n.toUInt32)).set 13 (((v0.set 12 ((v0.getD 12 0) ^^^ n.toUInt32)).getD 13 0) ^^^ ((n >>> UInt64.ofNat 32).toUInt32))).set 14 ((((v0.set 12 ((v0.getD 12 0) ^^^ n.toUInt32)).set 13 (((v0.set 12 ((v0.getD 12 0) ^^^ n.toUInt32)).getD 13 0) ^^^ ((n >>> UInt64.ofNat 32).toUInt32))).getD 14 0) ^^^ (4294967295 : UInt32)))) := (((b289.ext hx295).ext hx302).grownN hg309 (by omega))
        obtain ⟨v315, e316⟩ : ∃ z, z = ((v0.set 12 ((v0.getD 12 0) ^^^ n.toUInt32)).set 13 (((v0.set 12 ((v0.getD 12 0) ^^^ n.toUInt32)).getD 13 0) ^^^ ((n >>> UInt64.ofNat 32).toUInt32))).set 14 ((((v0.set 12 ((v0.getD 12 0) ^^^ n.toUInt32)).set 13 (((v0.set 12 ((v0.getD 12 0) ^^^ n.toUInt32)).getD 13 0) ^^^ ((n >>> UInt64.ofNat 32).toUInt32))).getD 14 0) ^^^ (4294967295 : UInt32)) := ⟨_, rfl⟩
        have hl317 : v315.length = 16 := (congrArg List.length e316).trans (show List.length (((v0.set 12 ((v0.getD 12 0) ^^^ n.toUInt32)).set 13 (((v0.set 12 ((v0.getD 12 0) ^^^ n.toUInt32)).getD 13 0) ^^^ ((n >>> UInt64.ofNat 32).toUInt32))).set 14 ((((v0.set 12 ((v0.getD 12 0) ^^^ n.toUInt32)).set 13 (((v0.set 12 ((v0.getD 12 0) ^^^ n.toUInt32)).getD 13 0) ^^^ ((n >>> UInt64.ofNat 32).toUInt32))).getD 14 0) ^^^ (4294967295 : UInt32))) = _ from List.length_set.trans (show List.length ((v0.set 12 ((v0.getD 12 0) ^^^ n.toUInt32)).set 13 (((v0.set 12 ((v0.getD 12 0) ^^^ n.toUInt32)).getD 13 0) ^^^ ((n >>> UInt64.ofNat 32).toUInt32))) = _ from List.length_set.trans (show List.length (v0.set 12 ((v0.getD 12 0) ^^^ n.toUInt32)) = _ from List.length_set.trans hvl0)))
        rw [← e316] at b318
        have hv1 : v315 = begin_ h n last := by rw [e316, hv0, hc279]; rw [xor_all]; exact begin_true
        have b319 : Blk w307 g2 48 (u32Vals h) := ((((((b169.grownN hg252 (by omega)).grownN hg272 (by omega)).grownN hg290 (by omega)).ext hx295).ext hx302).grownN hg309 (by omega))
        have b320 : Blk w307 g10 48 (u32Vals (List.replicate 8 0)) := ((((((b170.grownN hg252 (by omega)).grownN hg272 (by omega)).grownN hg290 (by omega)).ext hx295).ext hx302).grownN hg309 (by omega))
        have b321 : Blk w307 g21 62 (u32Vals m) := ((((((b171.grownN hg252 (by omega)).grownN hg272 (by omega)).grownN hg290 (by omega)).ext hx295).ext hx302).grownN hg309 (by omega))
        have b322 : Blk w307 g143 48 (u32Vals iv) := ((((((b173.grownN hg252 (by omega)).grownN hg272 (by omega)).grownN hg290 (by omega)).ext hx295).ext hx302).grownN hg309 (by omega))
        refine wp_loop (fun a' W => ∃ (r : Nat) (v : List UInt32), Sl 182 [(0, (.agg (u32Vals h).toArray)), (1, (.slice A 64 c)), (2, (.int .u64 (n.toNat : Nat))), (3, (.bool last)), (4, (.pointer (some ⟨g2, 0, none⟩))), (8, (.pointer (some ⟨g10, 0, none⟩))), (9, (.pointer (some ⟨g21, 0, none⟩))), (10, (.int .i64 (k : Nat))), (22, (.bool (decide (((k : Nat) : Int) < (64 : Int))))), (11, (.pointer (some ⟨g125, 0, none⟩))), (12, (.pointer (some ⟨g143, 0, none⟩))), (13, (.int .i64 (k1 : Nat))), (45, (.bool (decide (((k1 : Nat) : Int) < (8 : Int))))), (72, (.bool last)), (14, (.pointer (some ⟨g299, 0, none⟩))), (15, (.int .i64 (r : Nat)))] a' ∧ r ≤ 10 ∧ v = roundTo m v315 r ∧ Ext w W ∧ Blk W g2 48 (u32Vals h) ∧ Blk W g10 48 (u32Vals (List.replicate 8 0)) ∧ Blk W g21 62 (u32Vals m) ∧ Blk W g125 62 (u32Vals v) ∧ Blk W g143 48 (u32Vals iv) ∧ Blk W g299 70 (intVals permI) ∧ w307.heap.size ≤ W.heap.size) (fun a' _ => 10 - (intOf (a'.eval (.tmp 15))).toNat) ⟨0, v315, ((((((((((((((((hF314.nil.cons (q_get hF314 (t := 15) rfl (by first | rfl | (congr 1; omega) | (congr 1; done)))).cons (q_get hF314 (t := 14) rfl rfl)).cons (q_get hF314 (t := 72) rfl rfl)).cons (q_get hF314 (t := 45) rfl rfl)).cons (q_get hF314 (t := 13) rfl rfl)).cons (q_get hF314 (t := 12) rfl rfl)).cons (q_get hF314 (t := 11) rfl rfl)).cons (q_get hF314 (t := 22) rfl rfl)).cons (q_get hF314 (t := 10) rfl rfl)).cons (q_get hF314 (t := 9) rfl rfl)).cons (q_get hF314 (t := 8) rfl rfl)).cons (q_get hF314 (t := 4) rfl rfl)).cons (q_get hF314 (t := 3) rfl rfl)).cons (q_get hF314 (t := 2) rfl rfl)).cons (q_get hF314 (t := 1) rfl rfl)).cons (q_get hF314 (t := 0) rfl rfl)), (by omega), rfl, ((((((((Ext.refl w).trans hx166).grownN hg252 (by omega)).grownN hg272 (by omega)).grownN hg290 (by omega)).trans hx295).trans hx302).grownN hg309 (by omega)), b319, b320, b321, b318, b322, b308, (Nat.le_refl _)⟩ ?_
        clear hF314
        rintro a323 w324 ⟨r, v, hF325, hp327, hp328, hx326, b329, b330, b331, b332, b333, b334, hf335⟩
        have hL336 := hF325
        have z337 := hx326.size
        have z338 := b329.lt
        have z339 := b330.lt
        have z340 := b331.lt
        have z341 := b332.lt
        have z342 := b333.lt
        have z343 := b334.lt
        have hvl : v.length = 16 := by rw [hp328]; exact roundTo_len hl317
        refine wp_seq_k (fun K344 hK344 => ?_)
        refine wp_seq_k (fun K345 hK345 => ?_)
        refine wp_region_lit ?_
        refine wpl_op (i := 0) rfl (o_val (v := (.int .i64 (r : Nat))) hF325 rfl rfl rfl rfl (rn_move (hF325.get rfl)) ?_)
        intro a346 hF347; clear hF325
        refine wpl_op (i := 1) rfl (o_val (v := (.bool (decide (((r : Nat) : Int) < (10 : Int))))) hF347 rfl rfl rfl rfl (rn_lss (hF347.get rfl) rfl) ?_)
        intro a348 hF349; clear hF347
        refine wpList_nil ?_
        refine hK345 _ _ ?_
        clear hK345
        by_cases hc350 : ((r : Nat) : Int) < (10 : Int)
        · skip
          refine wp_cond_true (c_true hF349 rfl (decide_eq_true hc350)) ?_
          refine wp_skip ?_
          refine hK344 _ _ ?_
          clear hK344
          refine wp_seq_k (fun K351 hK351 => ?_)
          refine wp_block ?_
          refine wp_seq_k (fun K352 hK352 => ?_)
          refine wp_region_lit ?_
          refine wpl_op (i := 0) rfl (o_val (v := (.int .i64 0)) hF349 rfl rfl rfl rfl (rn_assign rfl) ?_)
          intro a353 hF354; clear hF349
          refine wpList_nil ?_
          refine hK352 _ _ ?_
          clear hK352
          refine wp_block ?_
          refine wp_loop (fun a' W => ∃ (i2 : Nat) (v2 : List UInt32), Sl 182 [(0, (.agg (u32Vals h).toArray)), (1, (.slice A 64 c)), (2, (.int .u64 (n.toNat : Nat))), (3, (.bool last)), (4, (.pointer (some ⟨g2, 0, none⟩))), (8, (.pointer (some ⟨g10, 0, none⟩))), (9, (.pointer (some ⟨g21, 0, none⟩))), (10, (.int .i64 (k : Nat))), (22, (.bool (decide (((k : Nat) : Int) < (64 : Int))))), (11, (.pointer (some ⟨g125, 0, none⟩))), (12, (.pointer (some ⟨g143, 0, none⟩))), (13, (.int .i64 (k1 : Nat))), (45, (.bool (decide (((k1 : Nat) : Int) < (8 : Int))))), (72, (.bool last)), (14, (.pointer (some ⟨g299, 0, none⟩))), (15, (.int .i64 (r : Nat))), (79, (.bool (decide (((r : Nat) : Int) < (10 : Int))))), (16, (.int .i64 (i2 : Nat)))] a' ∧ i2 ≤ 8 ∧ v2 = mixTo m (permRow r) v i2 ∧ Ext w W ∧ Blk W g2 48 (u32Vals h) ∧ Blk W g10 48 (u32Vals (List.replicate 8 0)) ∧ Blk W g21 62 (u32Vals m) ∧ Blk W g125 62 (u32Vals v2) ∧ Blk W g143 48 (u32Vals iv) ∧ Blk W g299 70 (intVals permI) ∧ w324.heap.size ≤ W.heap.size) (fun a' _ => 8 - (intOf (a'.eval (.tmp 16))).toNat) ⟨0, v, ((((((((((((((((((hF354.nil.cons (q_get hF354 (t := 16) rfl (by first | rfl | (congr 1; omega) | (congr 1; done)))).cons (q_get hF354 (t := 79) rfl rfl)).cons (q_get hF354 (t := 15) rfl rfl)).cons (q_get hF354 (t := 14) rfl rfl)).cons (q_get hF354 (t := 72) rfl rfl)).cons (q_get hF354 (t := 45) rfl rfl)).cons (q_get hF354 (t := 13) rfl rfl)).cons (q_get hF354 (t := 12) rfl rfl)).cons (q_get hF354 (t := 11) rfl rfl)).cons (q_get hF354 (t := 22) rfl rfl)).cons (q_get hF354 (t := 10) rfl rfl)).cons (q_get hF354 (t := 9) rfl rfl)).cons (q_get hF354 (t := 8) rfl rfl)).cons (q_get hF354 (t := 4) rfl rfl)).cons (q_get hF354 (t := 3) rfl rfl)).cons (q_get hF354 (t := 2) rfl rfl)).cons (q_get hF354 (t := 1) rfl rfl)).cons (q_get hF354 (t := 0) rfl rfl)), (by omega), rfl, ((Ext.refl w).trans hx326), b329, b330, b331, b332, b333, b334, (Nat.le_refl _)⟩ ?_
          clear hF354
          rintro a355 w356 ⟨i2, v2, hF357, hp359, hp360, hx358, b361, b362, b363, b364, b365, b366, hf367⟩
          have hL368 := hF357
          have z369 := hx358.size
          have z370 := b361.lt
          have z371 := b362.lt
          have z372 := b363.lt
          have z373 := b364.lt
          have z374 := b365.lt
          have z375 := b366.lt
          have hvl2 : v2.length = 16 := by rw [hp360]; exact mixTo_len hvl
          refine wp_seq_k (fun K376 hK376 => ?_)
          refine wp_seq_k (fun K377 hK377 => ?_)
          refine wp_region_lit ?_
          refine wpl_op (i := 0) rfl (o_val (v := (.int .i64 (i2 : Nat))) hF357 rfl rfl rfl rfl (rn_move (hF357.get rfl)) ?_)
          intro a378 hF379; clear hF357
          refine wpl_op (i := 1) rfl (o_val (v := (.bool (decide (((i2 : Nat) : Int) < (8 : Int))))) hF379 rfl rfl rfl rfl (rn_lss (hF379.get rfl) rfl) ?_)
          intro a380 hF381; clear hF379
          refine wpList_nil ?_
          refine hK377 _ _ ?_
          clear hK377
          by_cases hc382 : ((i2 : Nat) : Int) < (8 : Int)
          · skip
            refine wp_cond_true (c_true hF381 rfl (decide_eq_true hc382)) ?_
            refine wp_skip ?_
            refine hK376 _ _ ?_
            clear hK376
            refine wp_seq_k (fun K383 hK383 => ?_)
            refine wp_block ?_
            refine wp_seq_k (fun K384 hK384 => ?_)
            refine wp_region_lit ?_
            refine wpl_op (i := 0) rfl (o_val (v := (.int .i64 (i2 : Nat))) hF381 rfl rfl rfl rfl (rn_move (hF381.get rfl)) ?_)
            intro a385 hF386; clear hF381
            refine wpl_op (i := 1) rfl (o_val (v := (.int .i64 (i2 % 4 : Nat))) hF386 rfl rfl rfl rfl (rn_remN (a := i2) (b := 4) (hF386.get rfl) rfl (by omega)) ?_)
            intro a387 hF388; clear hF386
            refine wpl_op (i := 2) rfl (o_val (v := (.int .i64 (i2 % 4 : Nat))) hF388 rfl rfl rfl rfl (rn_assign (hF388.get rfl)) ?_)
            intro a389 hF390; clear hF388
            refine wpList_nil ?_
            refine hK384 _ _ ?_
            clear hK384
            refine wp_seq_k (fun K391 hK391 => ?_)
            refine wp_region_lit ?_
            refine wpl_op (i := 0) rfl (o_val (v := (.int .i64 (i2 % 4 : Nat))) hF390 rfl rfl rfl rfl (rn_move (hF390.get rfl)) ?_)
            intro a392 hF393; clear hF390
            refine wpl_op (i := 1) rfl (o_val (v := (.int .i64 (i2 % 4 : Nat))) hF393 rfl rfl rfl rfl (rn_move (hF393.get rfl)) ?_)
            intro a394 hF395; clear hF393
            refine wpl_op (i := 2) rfl (o_val (v := (.int .i64 (4 + (i2 % 4) : Nat))) hF395 rfl rfl rfl rfl (rn_addN (a := 4) (b := i2 % 4) rfl (hF395.get rfl) (by omega)) ?_)
            intro a396 hF397; clear hF395
            refine wpl_op (i := 3) rfl (o_val (v := (.int .i64 (i2 % 4 : Nat))) hF397 rfl rfl rfl rfl (rn_move (hF397.get rfl)) ?_)
            intro a398 hF399; clear hF397
            refine wpl_op (i := 4) rfl (o_val (v := (.int .i64 (8 + (i2 % 4) : Nat))) hF399 rfl rfl rfl rfl (rn_addN (a := 8) (b := i2 % 4) rfl (hF399.get rfl) (by omega)) ?_)
            intro a400 hF401; clear hF399
            refine wpl_op (i := 5) rfl (o_val (v := (.int .i64 (i2 % 4 : Nat))) hF401 rfl rfl rfl rfl (rn_move (hF401.get rfl)) ?_)
            intro a402 hF403; clear hF401
            refine wpl_op (i := 6) rfl (o_val (v := (.int .i64 (12 + (i2 % 4) : Nat))) hF403 rfl rfl rfl rfl (rn_addN (a := 12) (b := i2 % 4) rfl (hF403.get rfl) (by omega)) ?_)
            intro a404 hF405; clear hF403
            refine wpl_op (i := 7) rfl (o_val (v := (.agg (intVals ([((i2 % 4 : Nat) : Int), ((4 + (i2 % 4) : Nat) : Int), ((8 + (i2 % 4) : Nat) : Int), ((12 + (i2 % 4) : Nat) : Int)])).toArray)) hF405 rfl rfl rfl rfl (rn_build (parts4 (hF405.get rfl) (hF405.get rfl) (hF405.get rfl) (hF405.get rfl)) (by kernel_rfl)) ?_)
            intro a406 hF407; clear hF405
            refine wpl_op (i := 8) rfl (o_new (fun g => (.pointer (some ⟨g, 0, none⟩))) (intVals (List.replicate 4 0)) 72 hF407 rfl rfl rfl rfl (by kernel_rfl) ?_)
            intro g408 w409 a414 hF415 z412 z413 b410 hx411; clear hF407
            refine wpl_op (i := 9) rfl (o_store (cells := (intVals ([((i2 % 4 : Nat) : Int), ((4 + (i2 % 4) : Nat) : Int), ((8 + (i2 % 4) : Nat) : Int), ((12 + (i2 % 4) : Nat) : Int)]))) hF415 rfl rfl rfl rfl (hF415.get rfl) (hF415.get rfl) b410 ((by kernel_rfl : (Tryd.prog.info? 72).map (·.size) = some 4).trans (congrArg some (intVals_len (show List.length [((i2 % 4 : Nat) : Int), ((4 + (i2 % 4) : Nat) : Int), ((8 + (i2 % 4) : Nat) : Int), ((12 + (i2 % 4) : Nat) : Int)] = 4 from rfl)).symm)) ((intVals_len (show List.length (List.replicate 4 0) = _ from List.length_replicate)).trans (intVals_len (show List.length [((i2 % 4 : Nat) : Int), ((4 + (i2 % 4) : Nat) : Int), ((8 + (i2 % 4) : Nat) : Int), ((12 + (i2 % 4) : Nat) : Int)] = 4 from rfl)).symm) (intVals_one _) ?_)
            intro w416 b417 hg418; have z419 := hg418.size
            refine wpList_nil ?_
            refine hK391 _ _ ?_
            clear hK391
            have hF420 := (((((((((((((((((((((hF415.nil.cons (hF415.get (t := 18) (v := (.pointer (some ⟨g408, 0, none⟩))) rfl)).cons (hF415.get (t := 17) (v := (.int .i64 (i2 % 4 : Nat))) rfl)).cons (hF415.get (t := 83) (v := (.bool (decide (((i2 : Nat) : Int) < (8 : Int))))) rfl)).cons (hF415.get (t := 16) (v := (.int .i64 (i2 : Nat))) rfl)).cons (hF415.get (t := 79) (v := (.bool (decide (((r : Nat) : Int) < (10 : Int))))) rfl)).cons (hF415.get (t := 15) (v := (.int .i64 (r : Nat))) rfl)).cons (hF415.get (t := 14) (v := (.pointer (some ⟨g299, 0, none⟩))) rfl)).cons (hF415.get (t := 72) (v := (.bool last)) rfl)).cons (hF415.get (t := 45) (v := (.bool (decide (((k1 : Nat) : Int) < (8 : Int))))) rfl)).cons (hF415.get (t := 13) (v := (.int .i64 (k1 : Nat))) rfl)).cons (hF415.get (t := 12) (v := (.pointer (some ⟨g143, 0, none⟩))) rfl)).cons (hF415.get (t := 11) (v := (.pointer (some ⟨g125, 0, none⟩))) rfl)).cons (hF415.get (t := 22) (v := (.bool (decide (((k : Nat) : Int) < (64 : Int))))) rfl)).cons (hF415.get (t := 10) (v := (.int .i64 (k : Nat))) rfl)).cons (hF415.get (t := 9) (v := (.pointer (some ⟨g21, 0, none⟩))) rfl)).cons (hF415.get (t := 8) (v := (.pointer (some ⟨g10, 0, none⟩))) rfl)).cons (hF415.get (t := 4) (v := (.pointer (some ⟨g2, 0, none⟩))) rfl)).cons (hF415.get (t := 3) (v := (.bool last)) rfl)).cons (hF415.get (t := 2) (v := (.int .u64 (n.toNat : Nat))) rfl)).cons (hF415.get (t := 1) (v := (.slice A 64 c)) rfl)).cons (hF415.get (t := 0) (v := (.agg (u32Vals h).toArray)) rfl))
            clear hF415
            refine wp_seq_k (fun K421 hK421 => ?_)
            refine wp_seq_k (fun K422 hK422 => ?_)
            refine wp_region_lit ?_
            refine wpl_op (i := 0) rfl (o_val (v := (.int .i64 (i2 : Nat))) hF420 rfl rfl rfl rfl (rn_move (hF420.get rfl)) ?_)
            intro a423 hF424; clear hF420
            refine wpl_op (i := 1) rfl (o_val (v := (.bool (decide ((4 : Int) ≤ ((i2 : Nat) : Int))))) hF424 rfl rfl rfl rfl (rn_geq (hF424.get rfl) rfl) ?_)
            intro a425 hF426; clear hF424
            refine wpList_nil ?_
            refine hK422 _ _ ?_
            clear hK422
            by_cases hc427 : (4 : Int) ≤ ((i2 : Nat) : Int)
            · skip
              refine wp_cond_true (c_true hF426 rfl (decide_eq_true hc427)) ?_
              refine wp_region_lit ?_
              refine wpl_op (i := 0) rfl (o_val (v := (.int .i64 (i2 % 4 : Nat))) hF426 rfl rfl rfl rfl (rn_move (hF426.get rfl)) ?_)
              intro a428 hF429; clear hF426
              refine wpl_op (i := 1) rfl (o_val (v := (.int .i64 (i2 % 4 : Nat))) hF429 rfl rfl rfl rfl (rn_move (hF429.get rfl)) ?_)
              intro a430 hF431; clear hF429
              refine wpl_op (i := 2) rfl (o_val (v := (.int .i64 ((i2 % 4) + 1 : Nat))) hF431 rfl rfl rfl rfl (rn_addN (a := i2 % 4) (b := 1) (hF431.get rfl) rfl (by omega)) ?_)
              intro a432 hF433; clear hF431
              refine wpl_op (i := 3) rfl (o_val (v := (.int .i64 (((i2 % 4) + 1) % 4 : Nat))) hF433 rfl rfl rfl rfl (rn_remN (a := (i2 % 4) + 1) (b := 4) (hF433.get rfl) rfl (by omega)) ?_)
              intro a434 hF435; clear hF433
              refine wpl_op (i := 4) rfl (o_val (v := (.int .i64 (4 + (((i2 % 4) + 1) % 4) : Nat))) hF435 rfl rfl rfl rfl (rn_addN (a := 4) (b := ((i2 % 4) + 1) % 4) rfl (hF435.get rfl) (by omega)) ?_)
              intro a436 hF437; clear hF435
              refine wpl_op (i := 5) rfl (o_val (v := (.int .i64 (i2 % 4 : Nat))) hF437 rfl rfl rfl rfl (rn_move (hF437.get rfl)) ?_)
              intro a438 hF439; clear hF437
              refine wpl_op (i := 6) rfl (o_val (v := (.int .i64 ((i2 % 4) + 2 : Nat))) hF439 rfl rfl rfl rfl (rn_addN (a := i2 % 4) (b := 2) (hF439.get rfl) rfl (by omega)) ?_)
              intro a440 hF441; clear hF439
              refine wpl_op (i := 7) rfl (o_val (v := (.int .i64 (((i2 % 4) + 2) % 4 : Nat))) hF441 rfl rfl rfl rfl (rn_remN (a := (i2 % 4) + 2) (b := 4) (hF441.get rfl) rfl (by omega)) ?_)
              intro a442 hF443; clear hF441
              refine wpl_op (i := 8) rfl (o_val (v := (.int .i64 (8 + (((i2 % 4) + 2) % 4) : Nat))) hF443 rfl rfl rfl rfl (rn_addN (a := 8) (b := ((i2 % 4) + 2) % 4) rfl (hF443.get rfl) (by omega)) ?_)
              intro a444 hF445; clear hF443
              refine wpl_op (i := 9) rfl (o_val (v := (.int .i64 (i2 % 4 : Nat))) hF445 rfl rfl rfl rfl (rn_move (hF445.get rfl)) ?_)
              intro a446 hF447; clear hF445
              refine wpl_op (i := 10) rfl (o_val (v := (.int .i64 ((i2 % 4) + 3 : Nat))) hF447 rfl rfl rfl rfl (rn_addN (a := i2 % 4) (b := 3) (hF447.get rfl) rfl (by omega)) ?_)
              intro a448 hF449; clear hF447
              refine wpl_op (i := 11) rfl (o_val (v := (.int .i64 (((i2 % 4) + 3) % 4 : Nat))) hF449 rfl rfl rfl rfl (rn_remN (a := (i2 % 4) + 3) (b := 4) (hF449.get rfl) rfl (by omega)) ?_)
              intro a450 hF451; clear hF449
              refine wpl_op (i := 12) rfl (o_val (v := (.int .i64 (12 + (((i2 % 4) + 3) % 4) : Nat))) hF451 rfl rfl rfl rfl (rn_addN (a := 12) (b := ((i2 % 4) + 3) % 4) rfl (hF451.get rfl) (by omega)) ?_)
              intro a452 hF453; clear hF451
              refine wpl_op (i := 13) rfl (o_val (v := (.agg (intVals ([((i2 % 4 : Nat) : Int), ((4 + (((i2 % 4) + 1) % 4) : Nat) : Int), ((8 + (((i2 % 4) + 2) % 4) : Nat) : Int), ((12 + (((i2 % 4) + 3) % 4) : Nat) : Int)])).toArray)) hF453 rfl rfl rfl rfl (rn_build (parts4 (hF453.get rfl) (hF453.get rfl) (hF453.get rfl) (hF453.get rfl)) (by kernel_rfl)) ?_)
              intro a454 hF455; clear hF453
              refine wpl_op (i := 14) rfl (o_store (cells := (intVals ([((i2 % 4 : Nat) : Int), ((4 + (((i2 % 4) + 1) % 4) : Nat) : Int), ((8 + (((i2 % 4) + 2) % 4) : Nat) : Int), ((12 + (((i2 % 4) + 3) % 4) : Nat) : Int)]))) hF455 rfl rfl rfl rfl (hF455.get rfl) (hF455.get rfl) b417 ((by kernel_rfl : (Tryd.prog.info? 72).map (·.size) = some 4).trans (congrArg some (intVals_len (show List.length [((i2 % 4 : Nat) : Int), ((4 + (((i2 % 4) + 1) % 4) : Nat) : Int), ((8 + (((i2 % 4) + 2) % 4) : Nat) : Int), ((12 + (((i2 % 4) + 3) % 4) : Nat) : Int)] = 4 from rfl)).symm)) ((intVals_len (show List.length [((i2 % 4 : Nat) : Int), ((4 + (i2 % 4) : Nat) : Int), ((8 + (i2 % 4) : Nat) : Int), ((12 + (i2 % 4) : Nat) : Int)] = 4 from rfl)).trans (intVals_len (show List.length [((i2 % 4 : Nat) : Int), ((4 + (((i2 % 4) + 1) % 4) : Nat) : Int), ((8 + (((i2 % 4) + 2) % 4) : Nat) : Int), ((12 + (((i2 % 4) + 3) % 4) : Nat) : Int)] = 4 from rfl)).symm) (intVals_one _) ?_)
              intro w456 b457 hg458; have z459 := hg458.size
              refine wpList_nil ?_
              refine hK421 _ _ ?_
              clear hK421
              have hF460 := ((((((((((((((((((((((hF455.nil.cons (hF455.get (t := 97) (v := (.bool (decide ((4 : Int) ≤ ((i2 : Nat) : Int))))) rfl)).cons (hF455.get (t := 18) (v := (.pointer (some ⟨g408, 0, none⟩))) rfl)).cons (hF455.get (t := 17) (v := (.int .i64 (i2 % 4 : Nat))) rfl)).cons (hF455.get (t := 83) (v := (.bool (decide (((i2 : Nat) : Int) < (8 : Int))))) rfl)).cons (hF455.get (t := 16) (v := (.int .i64 (i2 : Nat))) rfl)).cons (hF455.get (t := 79) (v := (.bool (decide (((r : Nat) : Int) < (10 : Int))))) rfl)).cons (hF455.get (t := 15) (v := (.int .i64 (r : Nat))) rfl)).cons (hF455.get (t := 14) (v := (.pointer (some ⟨g299, 0, none⟩))) rfl)).cons (hF455.get (t := 72) (v := (.bool last)) rfl)).cons (hF455.get (t := 45) (v := (.bool (decide (((k1 : Nat) : Int) < (8 : Int))))) rfl)).cons (hF455.get (t := 13) (v := (.int .i64 (k1 : Nat))) rfl)).cons (hF455.get (t := 12) (v := (.pointer (some ⟨g143, 0, none⟩))) rfl)).cons (hF455.get (t := 11) (v := (.pointer (some ⟨g125, 0, none⟩))) rfl)).cons (hF455.get (t := 22) (v := (.bool (decide (((k : Nat) : Int) < (64 : Int))))) rfl)).cons (hF455.get (t := 10) (v := (.int .i64 (k : Nat))) rfl)).cons (hF455.get (t := 9) (v := (.pointer (some ⟨g21, 0, none⟩))) rfl)).cons (hF455.get (t := 8) (v := (.pointer (some ⟨g10, 0, none⟩))) rfl)).cons (hF455.get (t := 4) (v := (.pointer (some ⟨g2, 0, none⟩))) rfl)).cons (hF455.get (t := 3) (v := (.bool last)) rfl)).cons (hF455.get (t := 2) (v := (.int .u64 (n.toNat : Nat))) rfl)).cons (hF455.get (t := 1) (v := (.slice A 64 c)) rfl)).cons (hF455.get (t := 0) (v := (.agg (u32Vals h).toArray)) rfl))
              clear hF455
              have z461 := permRow_lt (r := r) (by omega) (j := 2 * i2) (by omega); have z462 := permRow_lt (r := r) (by omega) (j := 2 * i2 + 1) (by omega)
              have hx464 : ∃ W, w456.drew = W ∧ Ext w456 W := ⟨_, rfl, (Ext.refl _).drew⟩
              obtain ⟨w463, e465, hx464⟩ := hx464
              have z466 := hx464.size
              refine anyg_start (fun W => Ext w463 W ∧ Blk W g408 72 (intVals ([((i2 % 4 : Nat) : Int), ((4 + (((i2 % 4) + 1) % 4) : Nat) : Int), ((8 + (((i2 % 4) + 2) % 4) : Nat) : Int), ((12 + (((i2 % 4) + 3) % 4) : Nat) : Int)])) ∧ Blk W g125 62 (u32Vals v2) ∧ Blk W g299 70 (intVals permI) ∧ Blk W g21 62 (u32Vals m)) (fun i => i == 48 || i == 50 || i == 52 || i == 54) (fun W => Blk W g408 72 (intVals ([((i2 % 4 : Nat) : Int), ((4 + (((i2 % 4) + 1) % 4) : Nat) : Int), ((8 + (((i2 % 4) + 2) % 4) : Nat) : Int), ((12 + (((i2 % 4) + 3) % 4) : Nat) : Int)])) ∧ Blk W g299 70 (intVals permI) ∧ Blk W g21 62 (u32Vals m)) 55 #[false, false, false, false, false, false, false, false, false, false, false, false, false, false, false, false, false, false, false, false, false, false, false, false, false, false, false, false, false, false, false, false, false, false, false, false, false, false, false, false, false, false, false, false, false, false, false, false, false, false, false, false, false, false, false] rfl rfl rfl ?_
              rw [e465]; clear e465
              refine anyg_pure (i := 0) (v := (.pointer (some ⟨g408, 0 + 0, none⟩))) hF460 (by decide +kernel) (by decide +kernel) rfl rfl rfl rfl (fun _ _ _ _ h => h) rfl (fun W => (rn_indexArr Tryd.underlying72 (by kernel_rfl : (Tryd.prog.info? 3).map (·.size) = some 1) (hF460.get rfl) rfl (by omega : (0 : Int) ≤ 0) (by omega : (0 : Int) < ((4 : Nat) : Int)))) ?_
              intro a467 hF468; clear hF460
              have b470 : Blk w463 g408 72 (intVals ([((i2 % 4 : Nat) : Int), ((4 + (((i2 % 4) + 1) % 4) : Nat) : Int), ((8 + (((i2 % 4) + 2) % 4) : Nat) : Int), ((12 + (((i2 % 4) + 3) % 4) : Nat) : Int)])) := (b457.ext hx464)
              have b471 : Blk w463 g125 62 (u32Vals v2) := ((((b364.ext hx411).grownN hg418 (by omega)).grownN hg458 (by omega)).ext hx464)
              have b472 : Blk w463 g299 70 (intVals permI) := ((((b366.ext hx411).grownN hg418 (by omega)).grownN hg458 (by omega)).ext hx464)
              have b473 : Blk w463 g21 62 (u32Vals m) := ((((b363.ext hx411).grownN hg418 (by omega)).grownN hg458 (by omega)).ext hx464)
              have hS469 : Ext w463 w463 ∧ Blk w463 g408 72 (intVals ([((i2 % 4 : Nat) : Int), ((4 + (((i2 % 4) + 1) % 4) : Nat) : Int), ((8 + (((i2 % 4) + 2) % 4) : Nat) : Int), ((12 + (((i2 % 4) + 3) % 4) : Nat) : Int)])) ∧ Blk w463 g125 62 (u32Vals v2) ∧ Blk w463 g299 70 (intVals permI) ∧ Blk w463 g21 62 (u32Vals m) := ⟨(Ext.refl w463), b470, b471, b472, b473⟩
              refine anyg_val (i := 1) (v := (.int .i64 (i2 % 4 : Nat))) hF468 (by decide +kernel) (by decide +kernel) rfl rfl rfl rfl (fun _ _ _ _ h => h) rfl hS469 (fun W hW => (rn_load (isAgg_no Tryd.underlying3 rfl) (hF468.get rfl) (blk_intVals hW.2.1 (by omega) (show 0 < 4 from by decide)))) ?_
              intro a474 hF475; clear hF468
              refine anyg_pure (i := 2) (v := (.pointer (some ⟨g408, 0 + 1, none⟩))) hF475 (by decide +kernel) (by decide +kernel) rfl rfl rfl rfl (fun _ _ _ _ h => h) rfl (fun W => (rn_indexArr Tryd.underlying72 (by kernel_rfl : (Tryd.prog.info? 3).map (·.size) = some 1) (hF475.get rfl) rfl (by omega : (0 : Int) ≤ 1) (by omega : (1 : Int) < ((4 : Nat) : Int)))) ?_
              intro a476 hF477; clear hF475
              have hS478 : Blk w463 g408 72 (intVals ([((i2 % 4 : Nat) : Int), ((4 + (((i2 % 4) + 1) % 4) : Nat) : Int), ((8 + (((i2 % 4) + 2) % 4) : Nat) : Int), ((12 + (((i2 % 4) + 3) % 4) : Nat) : Int)])) ∧ Blk w463 g299 70 (intVals permI) ∧ Blk w463 g21 62 (u32Vals m) := ⟨b470, b472, b473⟩
              refine anyg_val2 (i := 3) (v := (.int .i64 (4 + (((i2 % 4) + 1) % 4) : Nat))) hF477 (by decide +kernel) (by decide +kernel) rfl rfl rfl rfl (fun _ _ _ _ h => h) rfl hS478 (fun W hW => (rn_load (isAgg_no Tryd.underlying3 rfl) (hF477.get rfl) (blk_intVals hW.1 (by omega) (show 1 < 4 from by decide)))) ?_
              intro a479 hF480; clear hF477
              refine anyg_pure (i := 4) (v := (.pointer (some ⟨g408, 0 + 2, none⟩))) hF480 (by decide +kernel) (by decide +kernel) rfl rfl rfl rfl (fun _ _ _ _ h => h) rfl (fun W => (rn_indexArr Tryd.underlying72 (by kernel_rfl : (Tryd.prog.info? 3).map (·.size) = some 1) (hF480.get rfl) rfl (by omega : (0 : Int) ≤ 2) (by omega : (2 : Int) < ((4 : Nat) : Int)))) ?_
              intro a481 hF482; clear hF480
              have hS483 : Blk w463 g408 72 (intVals ([((i2 % 4 : Nat) : Int), ((4 + (((i2 % 4) + 1) % 4) : Nat) : Int), ((8 + (((i2 % 4) + 2) % 4) : Nat) : Int), ((12 + (((i2 % 4) + 3) % 4) : Nat) : Int)])) ∧ Blk w463 g299 70 (intVals permI) ∧ Blk w463 g21 62 (u32Vals m) := ⟨b470, b472, b473⟩
              refine anyg_val2 (i := 5) (v := (.int .i64 (8 + (((i2 % 4) + 2) % 4) : Nat))) hF482 (by decide +kernel) (by decide +kernel) rfl rfl rfl rfl (fun _ _ _ _ h => h) rfl hS483 (fun W hW => (rn_load (isAgg_no Tryd.underlying3 rfl) (hF482.get rfl) (blk_intVals hW.1 (by omega) (show 2 < 4 from by decide)))) ?_
              intro a484 hF485; clear hF482
              refine anyg_pure (i := 6) (v := (.pointer (some ⟨g408, 0 + 3, none⟩))) hF485 (by decide +kernel) (by decide +kernel) rfl rfl rfl rfl (fun _ _ _ _ h => h) rfl (fun W => (rn_indexArr Tryd.underlying72 (by kernel_rfl : (Tryd.prog.info? 3).map (·.size) = some 1) (hF485.get rfl) rfl (by omega : (0 : Int) ≤ 3) (by omega : (3 : Int) < ((4 : Nat) : Int)))) ?_
              intro a486 hF487; clear hF485
              have hS488 : Blk w463 g408 72 (intVals ([((i2 % 4 : Nat) : Int), ((4 + (((i2 % 4) + 1) % 4) : Nat) : Int), ((8 + (((i2 % 4) + 2) % 4) : Nat) : Int), ((12 + (((i2 % 4) + 3) % 4) : Nat) : Int)])) ∧ Blk w463 g299 70 (intVals permI) ∧ Blk w463 g21 62 (u32Vals m) := ⟨b470, b472, b473⟩
              refine anyg_val2 (i := 7) (v := (.int .i64 (12 + (((i2 % 4) + 3) % 4) : Nat))) hF487 (by decide +kernel) (by decide +kernel) rfl rfl rfl rfl (fun _ _ _ _ h => h) rfl hS488 (fun W hW => (rn_load (isAgg_no Tryd.underlying3 rfl) (hF487.get rfl) (blk_intVals hW.1 (by omega) (show 3 < 4 from by decide)))) ?_
              intro a489 hF490; clear hF487
              refine anyg_pure (i := 8) (v := (.pointer (some ⟨g408, 0 + 0, none⟩))) hF490 (by decide +kernel) (by decide +kernel) rfl rfl rfl rfl (fun _ _ _ _ h => h) rfl (fun W => (rn_indexArr Tryd.underlying72 (by kernel_rfl : (Tryd.prog.info? 3).map (·.size) = some 1) (hF490.get rfl) rfl (by omega : (0 : Int) ≤ 0) (by omega : (0 : Int) < ((4 : Nat) : Int)))) ?_
              intro a491 hF492; clear hF490
              refine anyg_val (i := 9) (v := (.int .i64 (i2 % 4 : Nat))) hF492 (by decide +kernel) (by decide +kernel) rfl rfl rfl rfl (fun _ _ _ _ h => h) rfl hS469 (fun W hW => (rn_load (isAgg_no Tryd.underlying3 rfl) (hF492.get rfl) (blk_intVals hW.2.1 (by omega) (show 0 < 4 from by decide)))) ?_
              intro a493 hF494; clear hF492
              refine anyg_pure (i := 10) (v := (.pointer (some ⟨g125, 0 + (i2 % 4), none⟩))) hF494 (by decide +kernel) (by decide +kernel) rfl rfl rfl rfl (fun _ _ _ _ h => h) rfl (fun W => (rn_indexArr Tryd.underlying62 (by kernel_rfl : (Tryd.prog.info? 47).map (·.size) = some 1) (hF494.get rfl) (hF494.get rfl) (by omega : (0 : Int) ≤ (i2 % 4 : Nat)) (by omega : ((i2 % 4 : Nat) : Int) < ((16 : Nat) : Int)))) ?_
              intro a495 hF496; clear hF494
              refine anyg_val (i := 11) (v := (.int .u32 ((v2.getD (i2 % 4) 0).toNat : Nat))) hF496 (by decide +kernel) (by decide +kernel) rfl rfl rfl rfl (fun _ _ _ _ h => h) rfl hS469 (fun W hW => (rn_load (isAgg_no Tryd.underlying47 rfl) (hF496.get rfl) (blk_word hW.2.2.1 (by omega) (by have := (show List.length v2 = _ from hvl2); omega)))) ?_
              intro a497 hF498; clear hF496
              refine anyg_pure (i := 12) (v := (.pointer (some ⟨g408, 0 + 1, none⟩))) hF498 (by decide +kernel) (by decide +kernel) rfl rfl rfl rfl (fun _ _ _ _ h => h) rfl (fun W => (rn_indexArr Tryd.underlying72 (by kernel_rfl : (Tryd.prog.info? 3).map (·.size) = some 1) (hF498.get rfl) rfl (by omega : (0 : Int) ≤ 1) (by omega : (1 : Int) < ((4 : Nat) : Int)))) ?_
              intro a499 hF500; clear hF498
              refine anyg_val (i := 13) (v := (.int .i64 (4 + (((i2 % 4) + 1) % 4) : Nat))) hF500 (by decide +kernel) (by decide +kernel) rfl rfl rfl rfl (fun _ _ _ _ h => h) rfl hS469 (fun W hW => (rn_load (isAgg_no Tryd.underlying3 rfl) (hF500.get rfl) (blk_intVals hW.2.1 (by omega) (show 1 < 4 from by decide)))) ?_
              intro a501 hF502; clear hF500
              refine anyg_pure (i := 14) (v := (.pointer (some ⟨g125, 0 + (4 + (((i2 % 4) + 1) % 4)), none⟩))) hF502 (by decide +kernel) (by decide +kernel) rfl rfl rfl rfl (fun _ _ _ _ h => h) rfl (fun W => (rn_indexArr Tryd.underlying62 (by kernel_rfl : (Tryd.prog.info? 47).map (·.size) = some 1) (hF502.get rfl) (hF502.get rfl) (by omega : (0 : Int) ≤ (4 + (((i2 % 4) + 1) % 4) : Nat)) (by omega : ((4 + (((i2 % 4) + 1) % 4) : Nat) : Int) < ((16 : Nat) : Int)))) ?_
              intro a503 hF504; clear hF502
              refine anyg_val (i := 15) (v := (.int .u32 ((v2.getD (4 + (((i2 % 4) + 1) % 4)) 0).toNat : Nat))) hF504 (by decide +kernel) (by decide +kernel) rfl rfl rfl rfl (fun _ _ _ _ h => h) rfl hS469 (fun W hW => (rn_load (isAgg_no Tryd.underlying47 rfl) (hF504.get rfl) (blk_word hW.2.2.1 (by omega) (by have := (show List.length v2 = _ from hvl2); omega)))) ?_
              intro a505 hF506; clear hF504
              refine anyg_pure (i := 16) (v := (.pointer (some ⟨g408, 0 + 2, none⟩))) hF506 (by decide +kernel) (by decide +kernel) rfl rfl rfl rfl (fun _ _ _ _ h => h) rfl (fun W => (rn_indexArr Tryd.underlying72 (by kernel_rfl : (Tryd.prog.info? 3).map (·.size) = some 1) (hF506.get rfl) rfl (by omega : (0 : Int) ≤ 2) (by omega : (2 : Int) < ((4 : Nat) : Int)))) ?_
              intro a507 hF508; clear hF506
              refine anyg_val (i := 17) (v := (.int .i64 (8 + (((i2 % 4) + 2) % 4) : Nat))) hF508 (by decide +kernel) (by decide +kernel) rfl rfl rfl rfl (fun _ _ _ _ h => h) rfl hS469 (fun W hW => (rn_load (isAgg_no Tryd.underlying3 rfl) (hF508.get rfl) (blk_intVals hW.2.1 (by omega) (show 2 < 4 from by decide)))) ?_
              intro a509 hF510; clear hF508
              refine anyg_pure (i := 18) (v := (.pointer (some ⟨g125, 0 + (8 + (((i2 % 4) + 2) % 4)), none⟩))) hF510 (by decide +kernel) (by decide +kernel) rfl rfl rfl rfl (fun _ _ _ _ h => h) rfl (fun W => (rn_indexArr Tryd.underlying62 (by kernel_rfl : (Tryd.prog.info? 47).map (·.size) = some 1) (hF510.get rfl) (hF510.get rfl) (by omega : (0 : Int) ≤ (8 + (((i2 % 4) + 2) % 4) : Nat)) (by omega : ((8 + (((i2 % 4) + 2) % 4) : Nat) : Int) < ((16 : Nat) : Int)))) ?_
              intro a511 hF512; clear hF510
              refine anyg_val (i := 19) (v := (.int .u32 ((v2.getD (8 + (((i2 % 4) + 2) % 4)) 0).toNat : Nat))) hF512 (by decide +kernel) (by decide +kernel) rfl rfl rfl rfl (fun _ _ _ _ h => h) rfl hS469 (fun W hW => (rn_load (isAgg_no Tryd.underlying47 rfl) (hF512.get rfl) (blk_word hW.2.2.1 (by omega) (by have := (show List.length v2 = _ from hvl2); omega)))) ?_
              intro a513 hF514; clear hF512
              refine anyg_pure (i := 20) (v := (.pointer (some ⟨g408, 0 + 3, none⟩))) hF514 (by decide +kernel) (by decide +kernel) rfl rfl rfl rfl (fun _ _ _ _ h => h) rfl (fun W => (rn_indexArr Tryd.underlying72 (by kernel_rfl : (Tryd.prog.info? 3).map (·.size) = some 1) (hF514.get rfl) rfl (by omega : (0 : Int) ≤ 3) (by omega : (3 : Int) < ((4 : Nat) : Int)))) ?_
              intro a515 hF516; clear hF514
              refine anyg_val (i := 21) (v := (.int .i64 (12 + (((i2 % 4) + 3) % 4) : Nat))) hF516 (by decide +kernel) (by decide +kernel) rfl rfl rfl rfl (fun _ _ _ _ h => h) rfl hS469 (fun W hW => (rn_load (isAgg_no Tryd.underlying3 rfl) (hF516.get rfl) (blk_intVals hW.2.1 (by omega) (show 3 < 4 from by decide)))) ?_
              intro a517 hF518; clear hF516
              refine anyg_pure (i := 22) (v := (.pointer (some ⟨g125, 0 + (12 + (((i2 % 4) + 3) % 4)), none⟩))) hF518 (by decide +kernel) (by decide +kernel) rfl rfl rfl rfl (fun _ _ _ _ h => h) rfl (fun W => (rn_indexArr Tryd.underlying62 (by kernel_rfl : (Tryd.prog.info? 47).map (·.size) = some 1) (hF518.get rfl) (hF518.get rfl) (by omega : (0 : Int) ≤ (12 + (((i2 % 4) + 3) % 4) : Nat)) (by omega : ((12 + (((i2 % 4) + 3) % 4) : Nat) : Int) < ((16 : Nat) : Int)))) ?_
              intro a519 hF520; clear hF518
              refine anyg_val (i := 23) (v := (.int .u32 ((v2.getD (12 + (((i2 % 4) + 3) % 4)) 0).toNat : Nat))) hF520 (by decide +kernel) (by decide +kernel) rfl rfl rfl rfl (fun _ _ _ _ h => h) rfl hS469 (fun W hW => (rn_load (isAgg_no Tryd.underlying47 rfl) (hF520.get rfl) (blk_word hW.2.2.1 (by omega) (by have := (show List.length v2 = _ from hvl2); omega)))) ?_
              intro a521 hF522; clear hF520
              refine anyg_pure (i := 24) (v := (.int .i64 (r : Nat))) hF522 (by decide +kernel) (by decide +kernel) rfl rfl rfl rfl (fun _ _ _ _ h => h) rfl (fun W => (rn_move (hF522.get rfl))) ?_
              intro a523 hF524; clear hF522
              refine anyg_pure (i := 25) (v := (.int .i64 (i2 : Nat))) hF524 (by decide +kernel) (by decide +kernel) rfl rfl rfl rfl (fun _ _ _ _ h => h) rfl (fun W => (rn_move (hF524.get rfl))) ?_
              intro a525 hF526; clear hF524
              refine anyg_pure (i := 26) (v := (.int .i64 (2 * i2 : Nat))) hF526 (by decide +kernel) (by decide +kernel) rfl rfl rfl rfl (fun _ _ _ _ h => h) rfl (fun W => (rn_mulN (a := 2) (b := i2) rfl (hF526.get rfl) (by omega))) ?_
              intro a527 hF528; clear hF526
              refine anyg_pure (i := 27) (v := (.pointer (some ⟨g299, 0 + r * 16, none⟩))) hF528 (by decide +kernel) (by decide +kernel) rfl rfl rfl rfl (fun _ _ _ _ h => h) rfl (fun W => (rn_indexArrE Tryd.underlying70 (by kernel_rfl : (Tryd.prog.info? 69).map (·.size) = some 16) (hF528.get rfl) (hF528.get rfl) (by omega : (0 : Int) ≤ (r : Nat)) (by omega : ((r : Nat) : Int) < ((10 : Nat) : Int)) (by omega))) ?_
              intro a529 hF530; clear hF528
              refine anyg_pure (i := 28) (v := (.pointer (some ⟨g299, 0 + r * 16 + (2 * i2), none⟩))) hF530 (by decide +kernel) (by decide +kernel) rfl rfl rfl rfl (fun _ _ _ _ h => h) rfl (fun W => (rn_indexArr Tryd.underlying69 (by kernel_rfl : (Tryd.prog.info? 3).map (·.size) = some 1) (hF530.get rfl) (hF530.get rfl) (by omega : (0 : Int) ≤ (2 * i2 : Nat)) (by omega : ((2 * i2 : Nat) : Int) < ((16 : Nat) : Int)))) ?_
              intro a531 hF532; clear hF530
              refine anyg_val (i := 29) (v := (.int .i64 ((permRow r).getD (2 * i2) 0 : Nat))) hF532 (by decide +kernel) (by decide +kernel) rfl rfl rfl rfl (fun _ _ _ _ h => h) rfl hS469 (fun W hW => (rn_load (isAgg_no Tryd.underlying3 rfl) (hF532.get rfl) (blk_perm hW.2.2.2.1 (r := r) (j := (2 * i2)) (by omega) (by omega) (by omega)))) ?_
              intro a533 hF534; clear hF532
              refine anyg_pure (i := 30) (v := (.pointer (some ⟨g21, 0 + ((permRow r).getD (2 * i2) 0), none⟩))) hF534 (by decide +kernel) (by decide +kernel) rfl rfl rfl rfl (fun _ _ _ _ h => h) rfl (fun W => (rn_indexArr Tryd.underlying62 (by kernel_rfl : (Tryd.prog.info? 47).map (·.size) = some 1) (hF534.get rfl) (hF534.get rfl) (by omega : (0 : Int) ≤ ((permRow r).getD (2 * i2) 0 : Nat)) (by omega : (((permRow r).getD (2 * i2) 0 : Nat) : Int) < ((16 : Nat) : Int)))) ?_
              intro a535 hF536; clear hF534
              refine anyg_val (i := 31) (v := (.int .u32 ((m.getD ((permRow r).getD (2 * i2) 0) 0).toNat : Nat))) hF536 (by decide +kernel) (by decide +kernel) rfl rfl rfl rfl (fun _ _ _ _ h => h) rfl hS469 (fun W hW => (rn_load (isAgg_no Tryd.underlying47 rfl) (hF536.get rfl) (blk_word hW.2.2.2.2 (by omega) (by have := (show List.length m = _ from hm); omega)))) ?_
              intro a537 hF538; clear hF536
              refine anyg_pure (i := 32) (v := (.int .i64 (r : Nat))) hF538 (by decide +kernel) (by decide +kernel) rfl rfl rfl rfl (fun _ _ _ _ h => h) rfl (fun W => (rn_move (hF538.get rfl))) ?_
              intro a539 hF540; clear hF538
              refine anyg_pure (i := 33) (v := (.int .i64 (i2 : Nat))) hF540 (by decide +kernel) (by decide +kernel) rfl rfl rfl rfl (fun _ _ _ _ h => h) rfl (fun W => (rn_move (hF540.get rfl))) ?_
              intro a541 hF542; clear hF540
              refine anyg_pure (i := 34) (v := (.int .i64 (2 * i2 : Nat))) hF542 (by decide +kernel) (by decide +kernel) rfl rfl rfl rfl (fun _ _ _ _ h => h) rfl (fun W => (rn_mulN (a := 2) (b := i2) rfl (hF542.get rfl) (by omega))) ?_
              intro a543 hF544; clear hF542
              refine anyg_pure (i := 35) (v := (.int .i64 ((2 * i2) + 1 : Nat))) hF544 (by decide +kernel) (by decide +kernel) rfl rfl rfl rfl (fun _ _ _ _ h => h) rfl (fun W => (rn_addN (a := 2 * i2) (b := 1) (hF544.get rfl) rfl (by omega))) ?_
              intro a545 hF546; clear hF544
              refine anyg_pure (i := 36) (v := (.pointer (some ⟨g299, 0 + r * 16, none⟩))) hF546 (by decide +kernel) (by decide +kernel) rfl rfl rfl rfl (fun _ _ _ _ h => h) rfl (fun W => (rn_indexArrE Tryd.underlying70 (by kernel_rfl : (Tryd.prog.info? 69).map (·.size) = some 16) (hF546.get rfl) (hF546.get rfl) (by omega : (0 : Int) ≤ (r : Nat)) (by omega : ((r : Nat) : Int) < ((10 : Nat) : Int)) (by omega))) ?_
              intro a547 hF548; clear hF546
              refine anyg_pure (i := 37) (v := (.pointer (some ⟨g299, 0 + r * 16 + ((2 * i2) + 1), none⟩))) hF548 (by decide +kernel) (by decide +kernel) rfl rfl rfl rfl (fun _ _ _ _ h => h) rfl (fun W => (rn_indexArr Tryd.underlying69 (by kernel_rfl : (Tryd.prog.info? 3).map (·.size) = some 1) (hF548.get rfl) (hF548.get rfl) (by omega : (0 : Int) ≤ ((2 * i2) + 1 : Nat)) (by omega : (((2 * i2) + 1 : Nat) : Int) < ((16 : Nat) : Int)))) ?_
              intro a549 hF550; clear hF548
              refine anyg_val (i := 38) (v := (.int .i64 ((permRow r).getD ((2 * i2) + 1) 0 : Nat))) hF550 (by decide +kernel) (by decide +kernel) rfl rfl rfl rfl (fun _ _ _ _ h => h) rfl hS469 (fun W hW => (rn_load (isAgg_no Tryd.underlying3 rfl) (hF550.get rfl) (blk_perm hW.2.2.2.1 (r := r) (j := ((2 * i2) + 1)) (by omega) (by omega) (by omega)))) ?_
              intro a551 hF552; clear hF550
              refine anyg_pure (i := 39) (v := (.pointer (some ⟨g21, 0 + ((permRow r).getD ((2 * i2) + 1) 0), none⟩))) hF552 (by decide +kernel) (by decide +kernel) rfl rfl rfl rfl (fun _ _ _ _ h => h) rfl (fun W => (rn_indexArr Tryd.underlying62 (by kernel_rfl : (Tryd.prog.info? 47).map (·.size) = some 1) (hF552.get rfl) (hF552.get rfl) (by omega : (0 : Int) ≤ ((permRow r).getD ((2 * i2) + 1) 0 : Nat)) (by omega : (((permRow r).getD ((2 * i2) + 1) 0 : Nat) : Int) < ((16 : Nat) : Int)))) ?_
              intro a553 hF554; clear hF552
              refine anyg_val (i := 40) (v := (.int .u32 ((m.getD ((permRow r).getD ((2 * i2) + 1) 0) 0).toNat : Nat))) hF554 (by decide +kernel) (by decide +kernel) rfl rfl rfl rfl (fun _ _ _ _ h => h) rfl hS469 (fun W hW => (rn_load (isAgg_no Tryd.underlying47 rfl) (hF554.get rfl) (blk_word hW.2.2.2.2 (by omega) (by have := (show List.length m = _ from hm); omega)))) ?_
              intro a555 hF556; clear hF554
              refine anyg_one (i := 41) (by decide +kernel) rfl ?_
              refine o_call hF556 rfl rfl rfl rfl (rn_call (args6 (hF556.get rfl) (hF556.get rfl) (hF556.get rfl) (hF556.get rfl) (hF556.get rfl) (hF556.get rfl)) rfl (by kernel_rfl)) (rmix_any (v2.getD (i2 % 4) 0) (v2.getD (4 + (((i2 % 4) + 1) % 4)) 0) (v2.getD (8 + (((i2 % 4) + 2) % 4)) 0) (v2.getD (12 + (((i2 % 4) + 3) % 4)) 0) (m.getD ((permRow r).getD (2 * i2) 0) 0) (m.getD ((permRow r).getD ((2 * i2) + 1) 0) 0) _) ?_
              rintro _ w557 ⟨rfl, hx558⟩
              refine ⟨_, rfl, ?_⟩; intro a559 hF560; clear hF556; have z561 := hx558.size
              have b562 : Blk w557 g408 72 (intVals ([((i2 % 4 : Nat) : Int), ((4 + (((i2 % 4) + 1) % 4) : Nat) : Int), ((8 + (((i2 % 4) + 2) % 4) : Nat) : Int), ((12 + (((i2 % 4) + 3) % 4) : Nat) : Int)])) := (b470.ext hx558)
              have b563 : Blk w557 g125 62 (u32Vals v2) := (b471.ext hx558)
              have b564 : Blk w557 g299 70 (intVals permI) := (b472.ext hx558)
              have b565 : Blk w557 g21 62 (u32Vals m) := (b473.ext hx558)
              refine ⟨⟨fun _ _ => ⟨((Ext.refl w463).trans hx558), b562, b563, b564, b565⟩, fun _ => ⟨b562, b564, b565⟩⟩, ?_⟩
              refine anyg_pure (i := 42) (v := (.tuple #[(.int .u32 (((mix4 (v2.getD (i2 % 4) 0) (v2.getD (4 + (((i2 % 4) + 1) % 4)) 0) (v2.getD (8 + (((i2 % 4) + 2) % 4)) 0) (v2.getD (12 + (((i2 % 4) + 3) % 4)) 0) (m.getD ((permRow r).getD (2 * i2) 0) 0) (m.getD ((permRow r).getD ((2 * i2) + 1) 0) 0)).a).toNat : Nat)), (.int .u32 (((mix4 (v2.getD (i2 % 4) 0) (v2.getD (4 + (((i2 % 4) + 1) % 4)) 0) (v2.getD (8 + (((i2 % 4) + 2) % 4)) 0) (v2.getD (12 + (((i2 % 4) + 3) % 4)) 0) (m.getD ((permRow r).getD (2 * i2) 0) 0) (m.getD ((permRow r).getD ((2 * i2) + 1) 0) 0)).b).toNat : Nat)), (.int .u32 (((mix4 (v2.getD (i2 % 4) 0) (v2.getD (4 + (((i2 % 4) + 1) % 4)) 0) (v2.getD (8 + (((i2 % 4) + 2) % 4)) 0) (v2.getD (12 + (((i2 % 4) + 3) % 4)) 0) (m.getD ((permRow r).getD (2 * i2) 0) 0) (m.getD ((permRow r).getD ((2 * i2) + 1) 0) 0)).c).toNat : Nat)), (.int .u32 (((mix4 (v2.getD (i2 % 4) 0) (v2.getD (4 + (((i2 % 4) + 1) % 4)) 0) (v2.getD (8 + (((i2 % 4) + 2) % 4)) 0) (v2.getD (12 + (((i2 % 4) + 3) % 4)) 0) (m.getD ((permRow r).getD (2 * i2) 0) 0) (m.getD ((permRow r).getD ((2 * i2) + 1) 0) 0)).d).toNat : Nat))])) hF560 (by decide +kernel) (by decide +kernel) rfl rfl rfl rfl (fun _ _ _ _ h => h) rfl (fun W => (rn_move (hF560.get rfl))) ?_
              intro a566 hF567; clear hF560
              refine anyg_pure (i := 43) (v := (.int .u32 (((mix4 (v2.getD (i2 % 4) 0) (v2.getD (4 + (((i2 % 4) + 1) % 4)) 0) (v2.getD (8 + (((i2 % 4) + 2) % 4)) 0) (v2.getD (12 + (((i2 % 4) + 3) % 4)) 0) (m.getD ((permRow r).getD (2 * i2) 0) 0) (m.getD ((permRow r).getD ((2 * i2) + 1) 0) 0)).a).toNat : Nat))) hF567 (by decide +kernel) (by decide +kernel) rfl rfl rfl rfl (fun _ _ _ _ h => h) rfl (fun W => (rn_extract (hF567.get rfl) rfl)) ?_
              intro a568 hF569; clear hF567
              refine anyg_pure (i := 44) (v := (.int .u32 (((mix4 (v2.getD (i2 % 4) 0) (v2.getD (4 + (((i2 % 4) + 1) % 4)) 0) (v2.getD (8 + (((i2 % 4) + 2) % 4)) 0) (v2.getD (12 + (((i2 % 4) + 3) % 4)) 0) (m.getD ((permRow r).getD (2 * i2) 0) 0) (m.getD ((permRow r).getD ((2 * i2) + 1) 0) 0)).b).toNat : Nat))) hF569 (by decide +kernel) (by decide +kernel) rfl rfl rfl rfl (fun _ _ _ _ h => h) rfl (fun W => (rn_extract (hF569.get rfl) rfl)) ?_
              intro a570 hF571; clear hF569
              refine anyg_pure (i := 45) (v := (.int .u32 (((mix4 (v2.getD (i2 % 4) 0) (v2.getD (4 + (((i2 % 4) + 1) % 4)) 0) (v2.getD (8 + (((i2 % 4) + 2) % 4)) 0) (v2.getD (12 + (((i2 % 4) + 3) % 4)) 0) (m.getD ((permRow r).getD (2 * i2) 0) 0) (m.getD ((permRow r).getD ((2 * i2) + 1) 0) 0)).c).toNat : Nat))) hF571 (by decide +kernel) (by decide +kernel) rfl rfl rfl rfl (fun _ _ _ _ h => h) rfl (fun W => (rn_extract (hF571.get rfl) rfl)) ?_
              intro a572 hF573; clear hF571
              refine anyg_pure (i := 46) (v := (.int .u32 (((mix4 (v2.getD (i2 % 4) 0) (v2.getD (4 + (((i2 % 4) + 1) % 4)) 0) (v2.getD (8 + (((i2 % 4) + 2) % 4)) 0) (v2.getD (12 + (((i2 % 4) + 3) % 4)) 0) (m.getD ((permRow r).getD (2 * i2) 0) 0) (m.getD ((permRow r).getD ((2 * i2) + 1) 0) 0)).d).toNat : Nat))) hF573 (by decide +kernel) (by decide +kernel) rfl rfl rfl rfl (fun _ _ _ _ h => h) rfl (fun W => (rn_extract (hF573.get rfl) rfl)) ?_
              intro a574 hF575; clear hF573
              refine anyg_pure (i := 47) (v := (.pointer (some ⟨g125, 0 + (i2 % 4), none⟩))) hF575 (by decide +kernel) (by decide +kernel) rfl rfl rfl rfl (fun _ _ _ _ h => h) rfl (fun W => (rn_indexArr Tryd.underlying62 (by kernel_rfl : (Tryd.prog.info? 47).map (·.size) = some 1) (hF575.get rfl) (hF575.get rfl) (by omega : (0 : Int) ≤ (i2 % 4 : Nat)) (by omega : ((i2 % 4 : Nat) : Int) < ((16 : Nat) : Int)))) ?_
              intro a576 hF577; clear hF575
              refine anyg_one (i := 48) (by decide +kernel) rfl ?_
              refine o_store1 (new := (u32Vals (v2.set (i2 % 4) ((mix4 (v2.getD (i2 % 4) 0) (v2.getD (4 + (((i2 % 4) + 1) % 4)) 0) (v2.getD (8 + (((i2 % 4) + 2) % 4)) 0) (v2.getD (12 + (((i2 % 4) + 3) % 4)) 0) (m.getD ((permRow r).getD (2 * i2) 0) 0) (m.getD ((permRow r).getD ((2 * i2) + 1) 0) 0)).a)))) hF577 rfl rfl rfl rfl (hF577.get rfl) (hF577.get rfl) b563 (by kernel_rfl : (Tryd.prog.info? 47).map (·.size) = some 1) (by rw [u32Vals_len hvl2]; omega) rfl (u32Vals_set (by omega)) ?_
              intro w578 b579 hg580; have z581 := hg580.size
              have b582 : Blk w578 g408 72 (intVals ([((i2 % 4 : Nat) : Int), ((4 + (((i2 % 4) + 1) % 4) : Nat) : Int), ((8 + (((i2 % 4) + 2) % 4) : Nat) : Int), ((12 + (((i2 % 4) + 3) % 4) : Nat) : Int)])) := (b562.grownN hg580 (by omega))
              have b583 : Blk w578 g299 70 (intVals permI) := (b564.grownN hg580 (by omega))
              have b584 : Blk w578 g21 62 (u32Vals m) := (b565.grownN hg580 (by omega))
              refine ⟨⟨fun h => absurd h (by decide), fun _ => ⟨b582, b583, b584⟩⟩, ?_⟩
              refine anyg_pure (i := 49) (v := (.pointer (some ⟨g125, 0 + (4 + (((i2 % 4) + 1) % 4)), none⟩))) hF577 (by decide +kernel) (by decide +kernel) rfl rfl rfl rfl (fun _ _ _ _ h => h) rfl (fun W => (rn_indexArr Tryd.underlying62 (by kernel_rfl : (Tryd.prog.info? 47).map (·.size) = some 1) (hF577.get rfl) (hF577.get rfl) (by omega : (0 : Int) ≤ (4 + (((i2 % 4) + 1) % 4) : Nat)) (by omega : ((4 + (((i2 % 4) + 1) % 4) : Nat) : Int) < ((16 : Nat) : Int)))) ?_
              intro a585 hF586; clear hF577
              refine anyg_one (i := 50) (by decide +kernel) rfl ?_
              refine o_store1 (new := (u32Vals ((v2.set (i2 % 4) ((mix4 (v2.getD (i2 % 4) 0) (v2.getD (4 + (((i2 % 4) + 1) % 4)) 0) (v2.getD (8 + (((i2 % 4) + 2) % 4)) 0) (v2.getD (12 + (((i2 % 4) + 3) % 4)) 0) (m.getD ((permRow r).getD (2 * i2) 0) 0) (m.getD ((permRow r).getD ((2 * i2) + 1) 0) 0)).a)).set (4 + (((i2 % 4) + 1) % 4)) ((mix4 (v2.getD (i2 % 4) 0) (v2.getD (4 + (((i2 % 4) + 1) % 4)) 0) (v2.getD (8 + (((i2 % 4) + 2) % 4)) 0) (v2.getD (12 + (((i2 % 4) + 3) % 4)) 0) (m.getD ((permRow r).getD (2 * i2) 0) 0) (m.getD ((permRow r).getD ((2 * i2) + 1) 0) 0)).b)))) hF586 rfl rfl rfl rfl (hF586.get rfl) (hF586.get rfl) b579 (by kernel_rfl : (Tryd.prog.info? 47).map (·.size) = some 1) (by rw [u32Vals_len (show List.length (v2.set (i2 % 4) ((mix4 (v2.getD (i2 % 4) 0) (v2.getD (4 + (((i2 % 4) + 1) % 4)) 0) (v2.getD (8 + (((i2 % 4) + 2) % 4)) 0) (v2.getD (12 + (((i2 % 4) + 3) % 4)) 0) (m.getD ((permRow r).getD (2 * i2) 0) 0) (m.getD ((permRow r).getD ((2 * i2) + 1) 0) 0)).a)) = _ from List.length_set.trans hvl2)]; omega) rfl (u32Vals_set (by omega)) ?_
              intro w587 b588 hg589; have z590 := hg589.size
              have b591 : Blk w587 g408 72 (intVals ([((i2 % 4 : Nat) : Int), ((4 + (((i2 % 4) + 1) % 4) : Nat) : Int), ((8 + (((i2 % 4) + 2) % 4) : Nat) : Int), ((12 + (((i2 % 4) + 3) % 4) : Nat) : Int)])) := (b582.grownN hg589 (by omega))
              have b592 : Blk w587 g299 70 (intVals permI) := (b583.grownN hg589 (by omega))
              have b593 : Blk w587 g21 62 (u32Vals m) := (b584.grownN hg589 (by omega))
              refine ⟨⟨fun h => absurd h (by decide), fun _ => ⟨b591, b592, b593⟩⟩, ?_⟩
              refine anyg_pure (i := 51) (v := (.pointer (some ⟨g125, 0 + (8 + (((i2 % 4) + 2) % 4)), none⟩))) hF586 (by decide +kernel) (by decide +kernel) rfl rfl rfl rfl (fun _ _ _ _ h => h) rfl (fun W => (rn_indexArr Tryd.underlying62 (by kernel_rfl : (Tryd.prog.info? 47).map (·.size) = some 1) (hF586.get rfl) (hF586.get rfl) (by omega : (0 : Int) ≤ (8 + (((i2 % 4) + 2) % 4) : Nat)) (by omega : ((8 + (((i2 % 4) + 2) % 4) : Nat) : Int) < ((16 : Nat) : Int)))) ?_
              intro a594 hF595; clear hF586
              refine anyg_one (i := 52) (by decide +kernel) rfl ?_
              refine o_store1 (new := (u32Vals (((v2.set (i2 % 4) ((mix4 (v2.getD (i2 % 4) 0) (v2.getD (4 + (((i2 % 4) + 1) % 4)) 0) (v2.getD (8 + (((i2 % 4) + 2) % 4)) 0) (v2.getD (12 + (((i2 % 4) + 3) % 4)) 0) (m.getD ((permRow r).getD (2 * i2) 0) 0) (m.getD ((permRow r).getD ((2 * i2) + 1) 0) 0)).a)).set (4 + (((i2 % 4) + 1) % 4)) ((mix4 (v2.getD (i2 % 4) 0) (v2.getD (4 + (((i2 % 4) + 1) % 4)) 0) (v2.getD (8 + (((i2 % 4) + 2) % 4)) 0) (v2.getD (12 + (((i2 % 4) + 3) % 4)) 0) (m.getD ((permRow r).getD (2 * i2) 0) 0) (m.getD ((permRow r).getD ((2 * i2) + 1) 0) 0)).b)).set (8 + (((i2 % 4) + 2) % 4)) ((mix4 (v2.getD (i2 % 4) 0) (v2.getD (4 + (((i2 % 4) + 1) % 4)) 0) (v2.getD (8 + (((i2 % 4) + 2) % 4)) 0) (v2.getD (12 + (((i2 % 4) + 3) % 4)) 0) (m.getD ((permRow r).getD (2 * i2) 0) 0) (m.getD ((permRow r).getD ((2 * i2) + 1) 0) 0)).c)))) hF595 rfl rfl rfl rfl (hF595.get rfl) (hF595.get rfl) b588 (by kernel_rfl : (Tryd.prog.info? 47).map (·.size) = some 1) (by rw [u32Vals_len (show List.length ((v2.set (i2 % 4) ((mix4 (v2.getD (i2 % 4) 0) (v2.getD (4 + (((i2 % 4) + 1) % 4)) 0) (v2.getD (8 + (((i2 % 4) + 2) % 4)) 0) (v2.getD (12 + (((i2 % 4) + 3) % 4)) 0) (m.getD ((permRow r).getD (2 * i2) 0) 0) (m.getD ((permRow r).getD ((2 * i2) + 1) 0) 0)).a)).set (4 + (((i2 % 4) + 1) % 4)) ((mix4 (v2.getD (i2 % 4) 0) (v2.getD (4 + (((i2 % 4) + 1) % 4)) 0) (v2.getD (8 + (((i2 % 4) + 2) % 4)) 0) (v2.getD (12 + (((i2 % 4) + 3) % 4)) 0) (m.getD ((permRow r).getD (2 * i2) 0) 0) (m.getD ((permRow r).getD ((2 * i2) + 1) 0) 0)).b)) = _ from List.length_set.trans (show List.length (v2.set (i2 % 4) ((mix4 (v2.getD (i2 % 4) 0) (v2.getD (4 + (((i2 % 4) + 1) % 4)) 0) (v2.getD (8 + (((i2 % 4) + 2) % 4)) 0) (v2.getD (12 + (((i2 % 4) + 3) % 4)) 0) (m.getD ((permRow r).getD (2 * i2) 0) 0) (m.getD ((permRow r).getD ((2 * i2) + 1) 0) 0)).a)) = _ from List.length_set.trans hvl2))]; omega) rfl (u32Vals_set (by omega)) ?_
              intro w596 b597 hg598; have z599 := hg598.size
              have b600 : Blk w596 g408 72 (intVals ([((i2 % 4 : Nat) : Int), ((4 + (((i2 % 4) + 1) % 4) : Nat) : Int), ((8 + (((i2 % 4) + 2) % 4) : Nat) : Int), ((12 + (((i2 % 4) + 3) % 4) : Nat) : Int)])) := (b591.grownN hg598 (by omega))
              have b601 : Blk w596 g299 70 (intVals permI) := (b592.grownN hg598 (by omega))
              have b602 : Blk w596 g21 62 (u32Vals m) := (b593.grownN hg598 (by omega))
              refine ⟨⟨fun h => absurd h (by decide), fun _ => ⟨b600, b601, b602⟩⟩, ?_⟩
              refine anyg_pure (i := 53) (v := (.pointer (some ⟨g125, 0 + (12 + (((i2 % 4) + 3) % 4)), none⟩))) hF595 (by decide +kernel) (by decide +kernel) rfl rfl rfl rfl (fun _ _ _ _ h => h) rfl (fun W => (rn_indexArr Tryd.underlying62 (by kernel_rfl : (Tryd.prog.info? 47).map (·.size) = some 1) (hF595.get rfl) (hF595.get rfl) (by omega : (0 : Int) ≤ (12 + (((i2 % 4) + 3) % 4) : Nat)) (by omega : ((12 + (((i2 % 4) + 3) % 4) : Nat) : Int) < ((16 : Nat) : Int)))) ?_
              intro a603 hF604; clear hF595
              refine anyg_one (i := 54) (by decide +kernel) rfl ?_
              refine o_store1 (new := (u32Vals ((((v2.set (i2 % 4) ((mix4 (v2.getD (i2 % 4) 0) (v2.getD (4 + (((i2 % 4) + 1) % 4)) 0) (v2.getD (8 + (((i2 % 4) + 2) % 4)) 0) (v2.getD (12 + (((i2 % 4) + 3) % 4)) 0) (m.getD ((permRow r).getD (2 * i2) 0) 0) (m.getD ((permRow r).getD ((2 * i2) + 1) 0) 0)).a)).set (4 + (((i2 % 4) + 1) % 4)) ((mix4 (v2.getD (i2 % 4) 0) (v2.getD (4 + (((i2 % 4) + 1) % 4)) 0) (v2.getD (8 + (((i2 % 4) + 2) % 4)) 0) (v2.getD (12 + (((i2 % 4) + 3) % 4)) 0) (m.getD ((permRow r).getD (2 * i2) 0) 0) (m.getD ((permRow r).getD ((2 * i2) + 1) 0) 0)).b)).set (8 + (((i2 % 4) + 2) % 4)) ((mix4 (v2.getD (i2 % 4) 0) (v2.getD (4 + (((i2 % 4) + 1) % 4)) 0) (v2.getD (8 + (((i2 % 4) + 2) % 4)) 0) (v2.getD (12 + (((i2 % 4) + 3) % 4)) 0) (m.getD ((permRow r).getD (2 * i2) 0) 0) (m.getD ((permRow r).getD ((2 * i2) + 1) 0) 0)).c)).set (12 + (((i2 % 4) + 3) % 4)) ((mix4 (v2.getD (i2 % 4) 0) (v2.getD (4 + (((i2 % 4) + 1) % 4)) 0) (v2.getD (8 + (((i2 % 4) + 2) % 4)) 0) (v2.getD (12 + (((i2 % 4) + 3) % 4)) 0) (m.getD ((permRow r).getD (2 * i2) 0) 0) (m.getD ((permRow r).getD ((2 * i2) + 1) 0) 0)).d)))) hF604 rfl rfl rfl rfl (hF604.get rfl) (hF604.get rfl) b597 (by kernel_rfl : (Tryd.prog.info? 47).map (·.size) = some 1) (by rw [u32Vals_len (show List.length (((v2.set (i2 % 4) ((mix4 (v2.getD (i2 % 4) 0) (v2.getD (4 + (((i2 % 4) + 1) % 4)) 0) (v2.getD (8 + (((i2 % 4) + 2) % 4)) 0) (v2.getD (12 + (((i2 % 4) + 3) % 4)) 0) (m.getD ((permRow r).getD (2 * i2) 0) 0) (m.getD ((permRow r).getD ((2 * i2) + 1) 0) 0)).a)).set (4 + (((i2 % 4) + 1) % 4)) ((mix4 (v2.getD (i2 % 4) 0) (v2.getD (4 + (((i2 % 4) + 1) % 4)) 0) (v2.getD (8 + (((i2 % 4) + 2) % 4)) 0) (v2.getD (12 + (((i2 % 4) + 3) % 4)) 0) (m.getD ((permRow r).getD (2 * i2) 0) 0) (m.getD ((permRow r).getD ((2 * i2) + 1) 0) 0)).b)).set (8 + (((i2 % 4) + 2) % 4)) ((mix4 (v2.getD (i2 % 4) 0) (v2.getD (4 + (((i2 % 4) + 1) % 4)) 0) (v2.getD (8 + (((i2 % 4) + 2) % 4)) 0) (v2.getD (12 + (((i2 % 4) + 3) % 4)) 0) (m.getD ((permRow r).getD (2 * i2) 0) 0) (m.getD ((permRow r).getD ((2 * i2) + 1) 0) 0)).c)) = _ from List.length_set.trans (show List.length ((v2.set (i2 % 4) ((mix4 (v2.getD (i2 % 4) 0) (v2.getD (4 + (((i2 % 4) + 1) % 4)) 0) (v2.getD (8 + (((i2 % 4) + 2) % 4)) 0) (v2.getD (12 + (((i2 % 4) + 3) % 4)) 0) (m.getD ((permRow r).getD (2 * i2) 0) 0) (m.getD ((permRow r).getD ((2 * i2) + 1) 0) 0)).a)).set (4 + (((i2 % 4) + 1) % 4)) ((mix4 (v2.getD (i2 % 4) 0) (v2.getD (4 + (((i2 % 4) + 1) % 4)) 0) (v2.getD (8 + (((i2 % 4) + 2) % 4)) 0) (v2.getD (12 + (((i2 % 4) + 3) % 4)) 0) (m.getD ((permRow r).getD (2 * i2) 0) 0) (m.getD ((permRow r).getD ((2 * i2) + 1) 0) 0)).b)) = _ from List.length_set.trans (show List.length (v2.set (i2 % 4) ((mix4 (v2.getD (i2 % 4) 0) (v2.getD (4 + (((i2 % 4) + 1) % 4)) 0) (v2.getD (8 + (((i2 % 4) + 2) % 4)) 0) (v2.getD (12 + (((i2 % 4) + 3) % 4)) 0) (m.getD ((permRow r).getD (2 * i2) 0) 0) (m.getD ((permRow r).getD ((2 * i2) + 1) 0) 0)).a)) = _ from List.length_set.trans hvl2)))]; omega) rfl (u32Vals_set (by omega)) ?_
              intro w605 b606 hg607; have z608 := hg607.size
              have b609 : Blk w605 g408 72 (intVals ([((i2 % 4 : Nat) : Int), ((4 + (((i2 % 4) + 1) % 4) : Nat) : Int), ((8 + (((i2 % 4) + 2) % 4) : Nat) : Int), ((12 + (((i2 % 4) + 3) % 4) : Nat) : Int)])) := (b600.grownN hg607 (by omega))
              have b610 : Blk w605 g299 70 (intVals permI) := (b601.grownN hg607 (by omega))
              have b611 : Blk w605 g21 62 (u32Vals m) := (b602.grownN hg607 (by omega))
              refine ⟨⟨fun h => absurd h (by decide), fun _ => ⟨b609, b610, b611⟩⟩, ?_⟩
              refine anyg_nil (by decide +kernel) ?_
              refine hK383 _ _ ?_
              clear hK383
              have hF612 := ((((((((((((((((((((((hF604.nil.cons (hF604.get (t := 97) (v := (.bool (decide ((4 : Int) ≤ ((i2 : Nat) : Int))))) rfl)).cons (hF604.get (t := 18) (v := (.pointer (some ⟨g408, 0, none⟩))) rfl)).cons (hF604.get (t := 17) (v := (.int .i64 (i2 % 4 : Nat))) rfl)).cons (hF604.get (t := 83) (v := (.bool (decide (((i2 : Nat) : Int) < (8 : Int))))) rfl)).cons (hF604.get (t := 16) (v := (.int .i64 (i2 : Nat))) rfl)).cons (hF604.get (t := 79) (v := (.bool (decide (((r : Nat) : Int) < (10 : Int))))) rfl)).cons (hF604.get (t := 15) (v := (.int .i64 (r : Nat))) rfl)).cons (hF604.get (t := 14) (v := (.pointer (some ⟨g299, 0, none⟩))) rfl)).cons (hF604.get (t := 72) (v := (.bool last)) rfl)).cons (hF604.get (t := 45) (v := (.bool (decide (((k1 : Nat) : Int) < (8 : Int))))) rfl)).cons (hF604.get (t := 13) (v := (.int .i64 (k1 : Nat))) rfl)).cons (hF604.get (t := 12) (v := (.pointer (some ⟨g143, 0, none⟩))) rfl)).cons (hF604.get (t := 11) (v := (.pointer (some ⟨g125, 0, none⟩))) rfl)).cons (hF604.get (t := 22) (v := (.bool (decide (((k : Nat) : Int) < (64 : Int))))) rfl)).cons (hF604.get (t := 10) (v := (.int .i64 (k : Nat))) rfl)).cons (hF604.get (t := 9) (v := (.pointer (some ⟨g21, 0, none⟩))) rfl)).cons (hF604.get (t := 8) (v := (.pointer (some ⟨g10, 0, none⟩))) rfl)).cons (hF604.get (t := 4) (v := (.pointer (some ⟨g2, 0, none⟩))) rfl)).cons (hF604.get (t := 3) (v := (.bool last)) rfl)).cons (hF604.get (t := 2) (v := (.int .u64 (n.toNat : Nat))) rfl)).cons (hF604.get (t := 1) (v := (.slice A 64 c)) rfl)).cons (hF604.get (t := 0) (v := (.agg (u32Vals h).toArray)) rfl))
              clear hF604
              refine wp_region_lit ?_
              refine wpl_op (i := 0) rfl (o_val (v := (.int .i64 (i2 : Nat))) hF612 rfl rfl rfl rfl (rn_move (hF612.get rfl)) ?_)
              intro a613 hF614; clear hF612
              refine wpl_op (i := 1) rfl (o_val (v := (.int .i64 (i2 + 1 : Nat))) hF614 rfl rfl rfl rfl (rn_addN (a := i2) (b := 1) (hF614.get rfl) rfl (by omega)) ?_)
              intro a615 hF616; clear hF614
              refine wpl_op (i := 2) rfl (o_val (v := (.int .i64 (i2 + 1 : Nat))) hF616 rfl rfl rfl rfl (rn_assign (hF616.get rfl)) ?_)
              intro a617 hF618; clear hF616
              refine wpList_nil ?_
              obtain ⟨v619, e620⟩ : ∃ z, z = (((v2.set (i2 % 4) ((mix4 (v2.getD (i2 % 4) 0) (v2.getD (4 + (((i2 % 4) + 1) % 4)) 0) (v2.getD (8 + (((i2 % 4) + 2) % 4)) 0) (v2.getD (12 + (((i2 % 4) + 3) % 4)) 0) (m.getD ((permRow r).getD (2 * i2) 0) 0) (m.getD ((permRow r).getD ((2 * i2) + 1) 0) 0)).a)).set (4 + (((i2 % 4) + 1) % 4)) ((mix4 (v2.getD (i2 % 4) 0) (v2.getD (4 + (((i2 % 4) + 1) % 4)) 0) (v2.getD (8 + (((i2 % 4) + 2) % 4)) 0) (v2.getD (12 + (((i2 % 4) + 3) % 4)) 0) (m.getD ((permRow r).getD (2 * i2) 0) 0) (m.getD ((permRow r).getD ((2 * i2) + 1) 0) 0)).b)).set (8 + (((i2 % 4) + 2) % 4)) ((mix4 (v2.getD (i2 % 4) 0) (v2.getD (4 + (((i2 % 4) + 1) % 4)) 0) (v2.getD (8 + (((i2 % 4) + 2) % 4)) 0) (v2.getD (12 + (((i2 % 4) + 3) % 4)) 0) (m.getD ((permRow r).getD (2 * i2) 0) 0) (m.getD ((permRow r).getD ((2 * i2) + 1) 0) 0)).c)).set (12 + (((i2 % 4) + 3) % 4)) ((mix4 (v2.getD (i2 % 4) 0) (v2.getD (4 + (((i2 % 4) + 1) % 4)) 0) (v2.getD (8 + (((i2 % 4) + 2) % 4)) 0) (v2.getD (12 + (((i2 % 4) + 3) % 4)) 0) (m.getD ((permRow r).getD (2 * i2) 0) 0) (m.getD ((permRow r).getD ((2 * i2) + 1) 0) 0)).d) := ⟨_, rfl⟩
              have hl621 : v619.length = 16 := (congrArg List.length e620).trans (show List.length ((((v2.set (i2 % 4) ((mix4 (v2.getD (i2 % 4) 0) (v2.getD (4 + (((i2 % 4) + 1) % 4)) 0) (v2.getD (8 + (((i2 % 4) + 2) % 4)) 0) (v2.getD (12 + (((i2 % 4) + 3) % 4)) 0) (m.getD ((permRow r).getD (2 * i2) 0) 0) (m.getD ((permRow r).getD ((2 * i2) + 1) 0) 0)).a)).set (4 + (((i2 % 4) + 1) % 4)) ((mix4 (v2.getD (i2 % 4) 0) (v2.getD (4 + (((i2 % 4) + 1) % 4)) 0) (v2.getD (8 + (((i2 % 4) + 2) % 4)) 0) (v2.getD (12 + (((i2 % 4) + 3) % 4)) 0) (m.getD ((permRow r).getD (2 * i2) 0) 0) (m.getD ((permRow r).getD ((2 * i2) + 1) 0) 0)).b)).set (8 + (((i2 % 4) + 2) % 4)) ((mix4 (v2.getD (i2 % 4) 0) (v2.getD (4 + (((i2 % 4) + 1) % 4)) 0) (v2.getD (8 + (((i2 % 4) + 2) % 4)) 0) (v2.getD (12 + (((i2 % 4) + 3) % 4)) 0) (m.getD ((permRow r).getD (2 * i2) 0) 0) (m.getD ((permRow r).getD ((2 * i2) + 1) 0) 0)).c)).set (12 + (((i2 % 4) + 3) % 4)) ((mix4 (v2.getD (i2 % 4) 0) (v2.getD (4 + (((i2 % 4) + 1) % 4)) 0) (v2.getD (8 + (((i2 % 4) + 2) % 4)) 0) (v2.getD (12 + (((i2 % 4) + 3) % 4)) 0) (m.getD ((permRow r).getD (2 * i2) 0) 0) (m.getD ((permRow r).getD ((2 * i2) + 1) 0) 0)).d)) = _ from List.length_set.trans (show List.length (((v2.set (i2 % 4) ((mix4 (v2.getD (i2 % 4) 0) (v2.getD (4 + (((i2 % 4) + 1) % 4)) 0) (v2.getD (8 + (((i2 % 4) + 2) % 4)) 0) (v2.getD (12 + (((i2 % 4) + 3) % 4)) 0) (m.getD ((permRow r).getD (2 * i2) 0) 0) (m.getD ((permRow r).getD ((2 * i2) + 1) 0) 0)).a)).set (4 + (((i2 % 4) + 1) % 4)) ((mix4 (v2.getD (i2 % 4) 0) (v2.getD (4 + (((i2 % 4) + 1) % 4)) 0) (v2.getD (8 + (((i2 % 4) + 2) % 4)) 0) (v2.getD (12 + (((i2 % 4) + 3) % 4)) 0) (m.getD ((permRow r).getD (2 * i2) 0) 0) (m.getD ((permRow r).getD ((2 * i2) + 1) 0) 0)).b)).set (8 + (((i2 % 4) + 2) % 4)) ((mix4 (v2.getD (i2 % 4) 0) (v2.getD (4 + (((i2 % 4) + 1) % 4)) 0) (v2.getD (8 + (((i2 % 4) + 2) % 4)) 0) (v2.getD (12 + (((i2 % 4) + 3) % 4)) 0) (m.getD ((permRow r).getD (2 * i2) 0) 0) (m.getD ((permRow r).getD ((2 * i2) + 1) 0) 0)).c)) = _ from List.length_set.trans (show List.length ((v2.set (i2 % 4) ((mix4 (v2.getD (i2 % 4) 0) (v2.getD (4 + (((i2 % 4) + 1) % 4)) 0) (v2.getD (8 + (((i2 % 4) + 2) % 4)) 0) (v2.getD (12 + (((i2 % 4) + 3) % 4)) 0) (m.getD ((permRow r).getD (2 * i2) 0) 0) (m.getD ((permRow r).getD ((2 * i2) + 1) 0) 0)).a)).set (4 + (((i2 % 4) + 1) % 4)) ((mix4 (v2.getD (i2 % 4) 0) (v2.getD (4 + (((i2 % 4) + 1) % 4)) 0) (v2.getD (8 + (((i2 % 4) + 2) % 4)) 0) (v2.getD (12 + (((i2 % 4) + 3) % 4)) 0) (m.getD ((permRow r).getD (2 * i2) 0) 0) (m.getD ((permRow r).getD ((2 * i2) + 1) 0) 0)).b)) = _ from List.length_set.trans (show List.length (v2.set (i2 % 4) ((mix4 (v2.getD (i2 % 4) 0) (v2.getD (4 + (((i2 % 4) + 1) % 4)) 0) (v2.getD (8 + (((i2 % 4) + 2) % 4)) 0) (v2.getD (12 + (((i2 % 4) + 3) % 4)) 0) (m.getD ((permRow r).getD (2 * i2) 0) 0) (m.getD ((permRow r).getD ((2 * i2) + 1) 0) 0)).a)) = _ from List.length_set.trans hvl2))))
              rw [← e620] at b606
              have b622 : Blk w605 g2 48 (u32Vals h) := (((((((((b361.ext hx411).grownN hg418 (by omega)).grownN hg458 (by omega)).ext hx464).ext hx558).grownN hg580 (by omega)).grownN hg589 (by omega)).grownN hg598 (by omega)).grownN hg607 (by omega))
              have b623 : Blk w605 g10 48 (u32Vals (List.replicate 8 0)) := (((((((((b362.ext hx411).grownN hg418 (by omega)).grownN hg458 (by omega)).ext hx464).ext hx558).grownN hg580 (by omega)).grownN hg589 (by omega)).grownN hg598 (by omega)).grownN hg607 (by omega))
              have b624 : Blk w605 g143 48 (u32Vals iv) := (((((((((b365.ext hx411).grownN hg418 (by omega)).grownN hg458 (by omega)).ext hx464).ext hx558).grownN hg580 (by omega)).grownN hg589 (by omega)).grownN hg598 (by omega)).grownN hg607 (by omega))
              refine ⟨⟨(i2 + 1), v619, ((((((((((((((((((hF618.nil.cons (q_get hF618 (t := 16) rfl (by first | rfl | (congr 1; omega) | (congr 1; done)))).cons (q_get hF618 (t := 79) rfl rfl)).cons (q_get hF618 (t := 15) rfl rfl)).cons (q_get hF618 (t := 14) rfl rfl)).cons (q_get hF618 (t := 72) rfl rfl)).cons (q_get hF618 (t := 45) rfl rfl)).cons (q_get hF618 (t := 13) rfl rfl)).cons (q_get hF618 (t := 12) rfl rfl)).cons (q_get hF618 (t := 11) rfl rfl)).cons (q_get hF618 (t := 22) rfl rfl)).cons (q_get hF618 (t := 10) rfl rfl)).cons (q_get hF618 (t := 9) rfl rfl)).cons (q_get hF618 (t := 8) rfl rfl)).cons (q_get hF618 (t := 4) rfl rfl)).cons (q_get hF618 (t := 3) rfl rfl)).cons (q_get hF618 (t := 2) rfl rfl)).cons (q_get hF618 (t := 1) rfl rfl)).cons (q_get hF618 (t := 0) rfl rfl)), (by omega), (mixTo_r2 (by omega) hp360 rfl rfl rfl rfl rfl e620), (((((((((((Ext.refl w).trans hx358).trans hx411).grownN hg418 (by omega)).grownN hg458 (by omega)).trans hx464).trans hx558).grownN hg580 (by omega)).grownN hg589 (by omega)).grownN hg598 (by omega)).grownN hg607 (by omega)), b622, b623, b611, b606, b624, b610, (by omega)⟩, ?_⟩
              rw [hF618.get (t := 16) rfl, hL368.get (t := 16) rfl]; simp [intOf] <;> omega
            · skip
              refine wp_cond_false (c_false hF426 rfl (decide_eq_false hc427)) ?_
              refine wp_skip ?_
              refine hK421 _ _ ?_
              clear hK421
              have z625 := permRow_lt (r := r) (by omega) (j := 2 * i2) (by omega); have z626 := permRow_lt (r := r) (by omega) (j := 2 * i2 + 1) (by omega)
              have hx628 : ∃ W, w416.drew = W ∧ Ext w416 W := ⟨_, rfl, (Ext.refl _).drew⟩
              obtain ⟨w627, e629, hx628⟩ := hx628
              have z630 := hx628.size
              refine anyg_start (fun W => Ext w627 W ∧ Blk W g408 72 (intVals ([((i2 % 4 : Nat) : Int), ((4 + (i2 % 4) : Nat) : Int), ((8 + (i2 % 4) : Nat) : Int), ((12 + (i2 % 4) : Nat) : Int)])) ∧ Blk W g125 62 (u32Vals v2) ∧ Blk W g299 70 (intVals permI) ∧ Blk W g21 62 (u32Vals m)) (fun i => i == 48 || i == 50 || i == 52 || i == 54) (fun W => Blk W g408 72 (intVals ([((i2 % 4 : Nat) : Int), ((4 + (i2 % 4) : Nat) : Int), ((8 + (i2 % 4) : Nat) : Int), ((12 + (i2 % 4) : Nat) : Int)])) ∧ Blk W g299 70 (intVals permI) ∧ Blk W g21 62 (u32Vals m)) 55 #[false, false, false, false, false, false, false, false, false, false, false, false, false, false, false, false, false, false, false, false, false, false, false, false, false, false, false, false, false, false, false, false, false, false, false, false, false, false, false, false, false, false, false, false, false, false, false, false, false, false, false, false, false, false, false] rfl rfl rfl ?_
              rw [e629]; clear e629
              refine anyg_pure (i := 0) (v := (.pointer (some ⟨g408, 0 + 0, none⟩))) hF426 (by decide +kernel) (by decide +kernel) rfl rfl rfl rfl (fun _ _ _ _ h => h) rfl (fun W => (rn_indexArr Tryd.underlying72 (by kernel_rfl : (Tryd.prog.info? 3).map (·.size) = some 1) (hF426.get rfl) rfl (by omega : (0 : Int) ≤ 0) (by omega : (0 : Int) < ((4 : Nat) : Int)))) ?_
              intro a631 hF632; clear hF426
              have b634 : Blk w627 g408 72 (intVals ([((i2 % 4 : Nat) : Int), ((4 + (i2 % 4) : Nat) : Int), ((8 + (i2 % 4) : Nat) : Int), ((12 + (i2 % 4) : Nat) : Int)])) := (b417.ext hx628)
              have b635 : Blk w627 g125 62 (u32Vals v2) := (((b364.ext hx411).grownN hg418 (by omega)).ext hx628)
              have b636 : Blk w627 g299 70 (intVals permI) := (((b366.ext hx411).grownN hg418 (by omega)).ext hx628)
              have b637 : Blk w627 g21 62 (u32Vals m) := (((b363.ext hx411).grownN hg418 (by omega)).ext hx628)
              have hS633 : Ext w627 w627 ∧ Blk w627 g408 72 (intVals ([((i2 % 4 : Nat) : Int), ((4 + (i2 % 4) : Nat) : Int), ((8 + (i2 % 4) : Nat) : Int), ((12 + (i2 % 4) : Nat) : Int)])) ∧ Blk w627 g125 62 (u32Vals v2) ∧ Blk w627 g299 70 (intVals permI) ∧ Blk w627 g21 62 (u32Vals m) := ⟨(Ext.refl w627), b634, b635, b636, b637⟩
              refine anyg_val (i := 1) (v := (.int .i64 (i2 % 4 : Nat))) hF632 (by decide +kernel) (by decide +kernel) rfl rfl rfl rfl (fun _ _ _ _ h => h) rfl hS633 (fun W hW => (rn_load (isAgg_no Tryd.underlying3 rfl) (hF632.get rfl) (blk_intVals hW.2.1 (by omega) (show 0 < 4 from by decide)))) ?_
              intro a638 hF639; clear hF632
              refine anyg_pure (i := 2) (v := (.pointer (some ⟨g408, 0 + 1, none⟩))) hF639 (by decide +kernel) (by decide +kernel) rfl rfl rfl rfl (fun _ _ _ _ h => h) rfl (fun W => (rn_indexArr Tryd.underlying72 (by kernel_rfl : (Tryd.prog.info? 3).map (·.size) = some 1) (hF639.get rfl) rfl (by omega : (0 : Int) ≤ 1) (by omega : (1 : Int) < ((4 : Nat) : Int)))) ?_
              intro a640 hF641; clear hF639
              have hS642 : Blk w627 g408 72 (intVals ([((i2 % 4 : Nat) : Int), ((4 + (i2 % 4) : Nat) : Int), ((8 + (i2 % 4) : Nat) : Int), ((12 + (i2 % 4) : Nat) : Int)])) ∧ Blk w627 g299 70 (intVals permI) ∧ Blk w627 g21 62 (u32Vals m) := ⟨b634, b636, b637⟩
              refine anyg_val2 (i := 3) (v := (.int .i64 (4 + (i2 % 4) : Nat))) hF641 (by decide +kernel) (by decide +kernel) rfl rfl rfl rfl (fun _ _ _ _ h => h) rfl hS642 (fun W hW => (rn_load (isAgg_no Tryd.underlying3 rfl) (hF641.get rfl) (blk_intVals hW.1 (by omega) (show 1 < 4 from by decide)))) ?_
              intro a643 hF644; clear hF641
              refine anyg_pure (i := 4) (v := (.pointer (some ⟨g408, 0 + 2, none⟩))) hF644 (by decide +kernel) (by decide +kernel) rfl rfl rfl rfl (fun _ _ _ _ h => h) rfl (fun W => (rn_indexArr Tryd.underlying72 (by kernel_rfl : (Tryd.prog.info? 3).map (·.size) = some 1) (hF644.get rfl) rfl (by omega : (0 : Int) ≤ 2) (by omega : (2 : Int) < ((4 : Nat) : Int)))) ?_
              intro a645 hF646; clear hF644
              have hS647 : Blk w627 g408 72 (intVals ([((i2 % 4 : Nat) : Int), ((4 + (i2 % 4) : Nat) : Int), ((8 + (i2 % 4) : Nat) : Int), ((12 + (i2 % 4) : Nat) : Int)])) ∧ Blk w627 g299 70 (intVals permI) ∧ Blk w627 g21 62 (u32Vals m) := ⟨b634, b636, b637⟩
              refine anyg_val2 (i := 5) (v := (.int .i64 (8 + (i2 % 4) : Nat))) hF646 (by decide +kernel) (by decide +kernel) rfl rfl rfl rfl (fun _ _ _ _ h => h) rfl hS647 (fun W hW => (rn_load (isAgg_no Tryd.underlying3 rfl) (hF646.get rfl) (blk_intVals hW.1 (by omega) (show 2 < 4 from by decide)))) ?_
              intro a648 hF649; clear hF646
              refine anyg_pure (i := 6) (v := (.pointer (some ⟨g408, 0 + 3, none⟩))) hF649 (by decide +kernel) (by decide +kernel) rfl rfl rfl rfl (fun _ _ _ _ h => h) rfl (fun W => (rn_indexArr Tryd.underlying72 (by kernel_rfl : (Tryd.prog.info? 3).map (·.size) = some 1) (hF649.get rfl) rfl (by omega : (0 : Int) ≤ 3) (by omega : (3 : Int) < ((4 : Nat) : Int)))) ?_
              intro a650 hF651; clear hF649
              have hS652 : Blk w627 g408 72 (intVals ([((i2 % 4 : Nat) : Int), ((4 + (i2 % 4) : Nat) : Int), ((8 + (i2 % 4) : Nat) : Int), ((12 + (i2 % 4) : Nat) : Int)])) ∧ Blk w627 g299 70 (intVals permI) ∧ Blk w627 g21 62 (u32Vals m) := ⟨b634, b636, b637⟩
              refine anyg_val2 (i := 7) (v := (.int .i64 (12 + (i2 % 4) : Nat))) hF651 (by decide +kernel) (by decide +kernel) rfl rfl rfl rfl (fun _ _ _ _ h => h) rfl hS652 (fun W hW => (rn_load (isAgg_no Tryd.underlying3 rfl) (hF651.get rfl) (blk_intVals hW.1 (by omega) (show 3 < 4 from by decide)))) ?_
              intro a653 hF654; clear hF651
              refine anyg_pure (i := 8) (v := (.pointer (some ⟨g408, 0 + 0, none⟩))) hF654 (by decide +kernel) (by decide +kernel) rfl rfl rfl rfl (fun _ _ _ _ h => h) rfl (fun W => (rn_indexArr Tryd.underlying72 (by kernel_rfl : (Tryd.prog.info? 3).map (·.size) = some 1) (hF654.get rfl) rfl (by omega : (0 : Int) ≤ 0) (by omega : (0 : Int) < ((4 : Nat) : Int)))) ?_
              intro a655 hF656; clear hF654
              refine anyg_val (i := 9) (v := (.int .i64 (i2 % 4 : Nat))) hF656 (by decide +kernel) (by decide +kernel) rfl rfl rfl rfl (fun _ _ _ _ h => h) rfl hS633 (fun W hW => (rn_load (isAgg_no Tryd.underlying3 rfl) (hF656.get rfl) (blk_intVals hW.2.1 (by omega) (show 0 < 4 from by decide)))) ?_
              intro a657 hF658; clear hF656
              refine anyg_pure (i := 10) (v := (.pointer (some ⟨g125, 0 + (i2 % 4), none⟩))) hF658 (by decide +kernel) (by decide +kernel) rfl rfl rfl rfl (fun _ _ _ _ h => h) rfl (fun W => (rn_indexArr Tryd.underlying62 (by kernel_rfl : (Tryd.prog.info? 47).map (·.size) = some 1) (hF658.get rfl) (hF658.get rfl) (by omega : (0 : Int) ≤ (i2 % 4 : Nat)) (by omega : ((i2 % 4 : Nat) : Int) < ((16 : Nat) : Int)))) ?_
              intro a659 hF660; clear hF658
              refine anyg_val (i := 11) (v := (.int .u32 ((v2.getD (i2 % 4) 0).toNat : Nat))) hF660 (by decide +kernel) (by decide +kernel) rfl rfl rfl rfl (fun _ _ _ _ h => h) rfl hS633 (fun W hW => (rn_load (isAgg_no Tryd.underlying47 rfl) (hF660.get rfl) (blk_word hW.2.2.1 (by omega) (by have := (show List.length v2 = _ from hvl2); omega)))) ?_
              intro a661 hF662; clear hF660
              refine anyg_pure (i := 12) (v := (.pointer (some ⟨g408, 0 + 1, none⟩))) hF662 (by decide +kernel) (by decide +kernel) rfl rfl rfl rfl (fun _ _ _ _ h => h) rfl (fun W => (rn_indexArr Tryd.underlying72 (by kernel_rfl : (Tryd.prog.info? 3).map (·.size) = some 1) (hF662.get rfl) rfl (by omega : (0 : Int) ≤ 1) (by omega : (1 : Int) < ((4 : Nat) : Int)))) ?_
              intro a663 hF664; clear hF662
              refine anyg_val (i := 13) (v := (.int .i64 (4 + (i2 % 4) : Nat))) hF664 (by decide +kernel) (by decide +kernel) rfl rfl rfl rfl (fun _ _ _ _ h => h) rfl hS633 (fun W hW => (rn_load (isAgg_no Tryd.underlying3 rfl) (hF664.get rfl) (blk_intVals hW.2.1 (by omega) (show 1 < 4 from by decide)))) ?_
              intro a665 hF666; clear hF664
              refine anyg_pure (i := 14) (v := (.pointer (some ⟨g125, 0 + (4 + (i2 % 4)), none⟩))) hF666 (by decide +kernel) (by decide +kernel) rfl rfl rfl rfl (fun _ _ _ _ h => h) rfl (fun W => (rn_indexArr Tryd.underlying62 (by kernel_rfl : (Tryd.prog.info? 47).map (·.size) = some 1) (hF666.get rfl) (hF666.get rfl) (by omega : (0 : Int) ≤ (4 + (i2 % 4) : Nat)) (by omega : ((4 + (i2 % 4) : Nat) : Int) < ((16 : Nat) : Int)))) ?_
              intro a667 hF668; clear hF666
              refine anyg_val (i := 15) (v := (.int .u32 ((v2.getD (4 + (i2 % 4)) 0).toNat : Nat))) hF668 (by decide +kernel) (by decide +kernel) rfl rfl rfl rfl (fun _ _ _ _ h => h) rfl hS633 (fun W hW => (rn_load (isAgg_no Tryd.underlying47 rfl) (hF668.get rfl) (blk_word hW.2.2.1 (by omega) (by have := (show List.length v2 = _ from hvl2); omega)))) ?_
              intro a669 hF670; clear hF668
              refine anyg_pure (i := 16) (v := (.pointer (some ⟨g408, 0 + 2, none⟩))) hF670 (by decide +kernel) (by decide +kernel) rfl rfl rfl rfl (fun _ _ _ _ h => h) rfl (fun W => (rn_indexArr Tryd.underlying72 (by kernel_rfl : (Tryd.prog.info? 3).map (·.size) = some 1) (hF670.get rfl) rfl (by omega : (0 : Int) ≤ 2) (by omega : (2 : Int) < ((4 : Nat) : Int)))) ?_
              intro a671 hF672; clear hF670
              refine anyg_val (i := 17) (v := (.int .i64 (8 + (i2 % 4) : Nat))) hF672 (by decide +kernel) (by decide +kernel) rfl rfl rfl rfl (fun _ _ _ _ h => h) rfl hS633 (fun W hW => (rn_load (isAgg_no Tryd.underlying3 rfl) (hF672.get rfl) (blk_intVals hW.2.1 (by omega) (show 2 < 4 from by decide)))) ?_
              intro a673 hF674; clear hF672
              refine anyg_pure (i := 18) (v := (.pointer (some ⟨g125, 0 + (8 + (i2 % 4)), none⟩))) hF674 (by decide +kernel) (by decide +kernel) rfl rfl rfl rfl (fun _ _ _ _ h => h) rfl (fun W => (rn_indexArr Tryd.underlying62 (by kernel_rfl : (Tryd.prog.info? 47).map (·.size) = some 1) (hF674.get rfl) (hF674.get rfl) (by omega : (0 : Int) ≤ (8 + (i2 % 4) : Nat)) (by omega : ((8 + (i2 % 4) : Nat) : Int) < ((16 : Nat) : Int)))) ?_
              intro a675 hF676; clear hF674
              refine anyg_val (i := 19) (v := (.int .u32 ((v2.getD (8 + (i2 % 4)) 0).toNat : Nat))) hF676 (by decide +kernel) (by decide +kernel) rfl rfl rfl rfl (fun _ _ _ _ h => h) rfl hS633 (fun W hW => (rn_load (isAgg_no Tryd.underlying47 rfl) (hF676.get rfl) (blk_word hW.2.2.1 (by omega) (by have := (show List.length v2 = _ from hvl2); omega)))) ?_
              intro a677 hF678; clear hF676
              refine anyg_pure (i := 20) (v := (.pointer (some ⟨g408, 0 + 3, none⟩))) hF678 (by decide +kernel) (by decide +kernel) rfl rfl rfl rfl (fun _ _ _ _ h => h) rfl (fun W => (rn_indexArr Tryd.underlying72 (by kernel_rfl : (Tryd.prog.info? 3).map (·.size) = some 1) (hF678.get rfl) rfl (by omega : (0 : Int) ≤ 3) (by omega : (3 : Int) < ((4 : Nat) : Int)))) ?_
              intro a679 hF680; clear hF678
              refine anyg_val (i := 21) (v := (.int .i64 (12 + (i2 % 4) : Nat))) hF680 (by decide +kernel) (by decide +kernel) rfl rfl rfl rfl (fun _ _ _ _ h => h) rfl hS633 (fun W hW => (rn_load (isAgg_no Tryd.underlying3 rfl) (hF680.get rfl) (blk_intVals hW.2.1 (by omega) (show 3 < 4 from by decide)))) ?_
              intro a681 hF682; clear hF680
              refine anyg_pure (i := 22) (v := (.pointer (some ⟨g125, 0 + (12 + (i2 % 4)), none⟩))) hF682 (by decide +kernel) (by decide +kernel) rfl rfl rfl rfl (fun _ _ _ _ h => h) rfl (fun W => (rn_indexArr Tryd.underlying62 (by kernel_rfl : (Tryd.prog.info? 47).map (·.size) = some 1) (hF682.get rfl) (hF682.get rfl) (by omega : (0 : Int) ≤ (12 + (i2 % 4) : Nat)) (by omega : ((12 + (i2 % 4) : Nat) : Int) < ((16 : Nat) : Int)))) ?_
              intro a683 hF684; clear hF682
              refine anyg_val (i := 23) (v := (.int .u32 ((v2.getD (12 + (i2 % 4)) 0).toNat : Nat))) hF684 (by decide +kernel) (by decide +kernel) rfl rfl rfl rfl (fun _ _ _ _ h => h) rfl hS633 (fun W hW => (rn_load (isAgg_no Tryd.underlying47 rfl) (hF684.get rfl) (blk_word hW.2.2.1 (by omega) (by have := (show List.length v2 = _ from hvl2); omega)))) ?_
              intro a685 hF686; clear hF684
              refine anyg_pure (i := 24) (v := (.int .i64 (r : Nat))) hF686 (by decide +kernel) (by decide +kernel) rfl rfl rfl rfl (fun _ _ _ _ h => h) rfl (fun W => (rn_move (hF686.get rfl))) ?_
              intro a687 hF688; clear hF686
              refine anyg_pure (i := 25) (v := (.int .i64 (i2 : Nat))) hF688 (by decide +kernel) (by decide +kernel) rfl rfl rfl rfl (fun _ _ _ _ h => h) rfl (fun W => (rn_move (hF688.get rfl))) ?_
              intro a689 hF690; clear hF688
              refine anyg_pure (i := 26) (v := (.int .i64 (2 * i2 : Nat))) hF690 (by decide +kernel) (by decide +kernel) rfl rfl rfl rfl (fun _ _ _ _ h => h) rfl (fun W => (rn_mulN (a := 2) (b := i2) rfl (hF690.get rfl) (by omega))) ?_
              intro a691 hF692; clear hF690
              refine anyg_pure (i := 27) (v := (.pointer (some ⟨g299, 0 + r * 16, none⟩))) hF692 (by decide +kernel) (by decide +kernel) rfl rfl rfl rfl (fun _ _ _ _ h => h) rfl (fun W => (rn_indexArrE Tryd.underlying70 (by kernel_rfl : (Tryd.prog.info? 69).map (·.size) = some 16) (hF692.get rfl) (hF692.get rfl) (by omega : (0 : Int) ≤ (r : Nat)) (by omega : ((r : Nat) : Int) < ((10 : Nat) : Int)) (by omega))) ?_
              intro a693 hF694; clear hF692
              refine anyg_pure (i := 28) (v := (.pointer (some ⟨g299, 0 + r * 16 + (2 * i2), none⟩))) hF694 (by decide +kernel) (by decide +kernel) rfl rfl rfl rfl (fun _ _ _ _ h => h) rfl (fun W => (rn_indexArr Tryd.underlying69 (by kernel_rfl : (Tryd.prog.info? 3).map (·.size) = some 1) (hF694.get rfl) (hF694.get rfl) (by omega : (0 : Int) ≤ (2 * i2 : Nat)) (by omega : ((2 * i2 : Nat) : Int) < ((16 : Nat) : Int)))) ?_
              intro a695 hF696; clear hF694
              refine anyg_val (i := 29) (v := (.int .i64 ((permRow r).getD (2 * i2) 0 : Nat))) hF696 (by decide +kernel) (by decide +kernel) rfl rfl rfl rfl (fun _ _ _ _ h => h) rfl hS633 (fun W hW => (rn_load (isAgg_no Tryd.underlying3 rfl) (hF696.get rfl) (blk_perm hW.2.2.2.1 (r := r) (j := (2 * i2)) (by omega) (by omega) (by omega)))) ?_
              intro a697 hF698; clear hF696
              refine anyg_pure (i := 30) (v := (.pointer (some ⟨g21, 0 + ((permRow r).getD (2 * i2) 0), none⟩))) hF698 (by decide +kernel) (by decide +kernel) rfl rfl rfl rfl (fun _ _ _ _ h => h) rfl (fun W => (rn_indexArr Tryd.underlying62 (by kernel_rfl : (Tryd.prog.info? 47).map (·.size) = some 1) (hF698.get rfl) (hF698.get rfl) (by omega : (0 : Int) ≤ ((permRow r).getD (2 * i2) 0 : Nat)) (by omega : (((permRow r).getD (2 * i2) 0 : Nat) : Int) < ((16 : Nat) : Int)))) ?_
              intro a699 hF700; clear hF698
              refine anyg_val (i := 31) (v := (.int .u32 ((m.getD ((permRow r).getD (2 * i2) 0) 0).toNat : Nat))) hF700 (by decide +kernel) (by decide +kernel) rfl rfl rfl rfl (fun _ _ _ _ h => h) rfl hS633 (fun W hW => (rn_load (isAgg_no Tryd.underlying47 rfl) (hF700.get rfl) (blk_word hW.2.2.2.2 (by omega) (by have := (show List.length m = _ from hm); omega)))) ?_
              intro a701 hF702; clear hF700
              refine anyg_pure (i := 32) (v := (.int .i64 (r : Nat))) hF702 (by decide +kernel) (by decide +kernel) rfl rfl rfl rfl (fun _ _ _ _ h => h) rfl (fun W => (rn_move (hF702.get rfl))) ?_
              intro a703 hF704; clear hF702
              refine anyg_pure (i := 33) (v := (.int .i64 (i2 : Nat))) hF704 (by decide +kernel) (by decide +kernel) rfl rfl rfl rfl (fun _ _ _ _ h => h) rfl (fun W => (rn_move (hF704.get rfl))) ?_
              intro a705 hF706; clear hF704
              refine anyg_pure (i := 34) (v := (.int .i64 (2 * i2 : Nat))) hF706 (by decide +kernel) (by decide +kernel) rfl rfl rfl rfl (fun _ _ _ _ h => h) rfl (fun W => (rn_mulN (a := 2) (b := i2) rfl (hF706.get rfl) (by omega))) ?_
              intro a707 hF708; clear hF706
              refine anyg_pure (i := 35) (v := (.int .i64 ((2 * i2) + 1 : Nat))) hF708 (by decide +kernel) (by decide +kernel) rfl rfl rfl rfl (fun _ _ _ _ h => h) rfl (fun W => (rn_addN (a := 2 * i2) (b := 1) (hF708.get rfl) rfl (by omega))) ?_
              intro a709 hF710; clear hF708
              refine anyg_pure (i := 36) (v := (.pointer (some ⟨g299, 0 + r * 16, none⟩))) hF710 (by decide +kernel) (by decide +kernel) rfl rfl rfl rfl (fun _ _ _ _ h => h) rfl (fun W => (rn_indexArrE Tryd.underlying70 (by kernel_rfl : (Tryd.prog.info? 69).map (·.size) = some 16) (hF710.get rfl) (hF710.get rfl) (by omega : (0 : Int) ≤ (r : Nat)) (by omega : ((r : Nat) : Int) < ((10 : Nat) : Int)) (by omega))) ?_
              intro a711 hF712; clear hF710
              refine anyg_pure (i := 37) (v := (.pointer (some ⟨g299, 0 + r * 16 + ((2 * i2) + 1), none⟩))) hF712 (by decide +kernel) (by decide +kernel) rfl rfl rfl rfl (fun _ _ _ _ h => h) rfl (fun W => (rn_indexArr Tryd.underlying69 (by kernel_rfl : (Tryd.prog.info? 3).map (·.size) = some 1) (hF712.get rfl) (hF712.get rfl) (by omega : (0 : Int) ≤ ((2 * i2) + 1 : Nat)) (by omega : (((2 * i2) + 1 : Nat) : Int) < ((16 : Nat) : Int)))) ?_
              intro a713 hF714; clear hF712
              refine anyg_val (i := 38) (v := (.int .i64 ((permRow r).getD ((2 * i2) + 1) 0 : Nat))) hF714 (by decide +kernel) (by decide +kernel) rfl rfl rfl rfl (fun _ _ _ _ h => h) rfl hS633 (fun W hW => (rn_load (isAgg_no Tryd.underlying3 rfl) (hF714.get rfl) (blk_perm hW.2.2.2.1 (r := r) (j := ((2 * i2) + 1)) (by omega) (by omega) (by omega)))) ?_
              intro a715 hF716; clear hF714
              refine anyg_pure (i := 39) (v := (.pointer (some ⟨g21, 0 + ((permRow r).getD ((2 * i2) + 1) 0), none⟩))) hF716 (by decide +kernel) (by decide +kernel) rfl rfl rfl rfl (fun _ _ _ _ h => h) rfl (fun W => (rn_indexArr Tryd.underlying62 (by kernel_rfl : (Tryd.prog.info? 47).map (·.size) = some 1) (hF716.get rfl) (hF716.get rfl) (by omega : (0 : Int) ≤ ((permRow r).getD ((2 * i2) + 1) 0 : Nat)) (by omega : (((permRow r).getD ((2 * i2) + 1) 0 : Nat) : Int) < ((16 : Nat) : Int)))) ?_
              intro a717 hF718; clear hF716
              refine anyg_val (i := 40) (v := (.int .u32 ((m.getD ((permRow r).getD ((2 * i2) + 1) 0) 0).toNat : Nat))) hF718 (by decide +kernel) (by decide +kernel) rfl rfl rfl rfl (fun _ _ _ _ h => h) rfl hS633 (fun W hW => (rn_load (isAgg_no Tryd.underlying47 rfl) (hF718.get rfl) (blk_word hW.2.2.2.2 (by omega) (by have := (show List.length m = _ from hm); omega)))) ?_
              intro a719 hF720; clear hF718
              refine anyg_one (i := 41) (by decide +kernel) rfl ?_
              refine o_call hF720 rfl rfl rfl rfl (rn_call (args6 (hF720.get rfl) (hF720.get rfl) (hF720.get rfl) (hF720.get rfl) (hF720.get rfl) (hF720.get rfl)) rfl (by kernel_rfl)) (rmix_any (v2.getD (i2 % 4) 0) (v2.getD (4 + (i2 % 4)) 0) (v2.getD (8 + (i2 % 4)) 0) (v2.getD (12 + (i2 % 4)) 0) (m.getD ((permRow r).getD (2 * i2) 0) 0) (m.getD ((permRow r).getD ((2 * i2) + 1) 0) 0) _) ?_
              rintro _ w721 ⟨rfl, hx722⟩
              refine ⟨_, rfl, ?_⟩; intro a723 hF724; clear hF720; have z725 := hx722.size
              have b726 : Blk w721 g408 72 (intVals ([((i2 % 4 : Nat) : Int), ((4 + (i2 % 4) : Nat) : Int), ((8 + (i2 % 4) : Nat) : Int), ((12 + (i2 % 4) : Nat) : Int)])) := (b634.ext hx722)
              have b727 : Blk w721 g125 62 (u32Vals v2) := (b635.ext hx722)
              have b728 : Blk w721 g299 70 (intVals permI) := (b636.ext hx722)
              have b729 : Blk w721 g21 62 (u32Vals m) := (b637.ext hx722)
              refine ⟨⟨fun _ _ => ⟨((Ext.refl w627).trans hx722), b726, b727, b728, b729⟩, fun _ => ⟨b726, b728, b729⟩⟩, ?_⟩
              refine anyg_pure (i := 42) (v := (.tuple #[(.int .u32 (((mix4 (v2.getD (i2 % 4) 0) (v2.getD (4 + (i2 % 4)) 0) (v2.getD (8 + (i2 % 4)) 0) (v2.getD (12 + (i2 % 4)) 0) (m.getD ((permRow r).getD (2 * i2) 0) 0) (m.getD ((permRow r).getD ((2 * i2) + 1) 0) 0)).a).toNat : Nat)), (.int .u32 (((mix4 (v2.getD (i2 % 4) 0) (v2.getD (4 + (i2 % 4)) 0) (v2.getD (8 + (i2 % 4)) 0) (v2.getD (12 + (i2 % 4)) 0) (m.getD ((permRow r).getD (2 * i2) 0) 0) (m.getD ((permRow r).getD ((2 * i2) + 1) 0) 0)).b).toNat : Nat)), (.int .u32 (((mix4 (v2.getD (i2 % 4) 0) (v2.getD (4 + (i2 % 4)) 0) (v2.getD (8 + (i2 % 4)) 0) (v2.getD (12 + (i2 % 4)) 0) (m.getD ((permRow r).getD (2 * i2) 0) 0) (m.getD ((permRow r).getD ((2 * i2) + 1) 0) 0)).c).toNat : Nat)), (.int .u32 (((mix4 (v2.getD (i2 % 4) 0) (v2.getD (4 + (i2 % 4)) 0) (v2.getD (8 + (i2 % 4)) 0) (v2.getD (12 + (i2 % 4)) 0) (m.getD ((permRow r).getD (2 * i2) 0) 0) (m.getD ((permRow r).getD ((2 * i2) + 1) 0) 0)).d).toNat : Nat))])) hF724 (by decide +kernel) (by decide +kernel) rfl rfl rfl rfl (fun _ _ _ _ h => h) rfl (fun W => (rn_move (hF724.get rfl))) ?_
              intro a730 hF731; clear hF724
              refine anyg_pure (i := 43) (v := (.int .u32 (((mix4 (v2.getD (i2 % 4) 0) (v2.getD (4 + (i2 % 4)) 0) (v2.getD (8 + (i2 % 4)) 0) (v2.getD (12 + (i2 % 4)) 0) (m.getD ((permRow r).getD (2 * i2) 0) 0) (m.getD ((permRow r).getD ((2 * i2) + 1) 0) 0)).a).toNat : Nat))) hF731 (by decide +kernel) (by decide +kernel) rfl rfl rfl rfl (fun _ _ _ _ h => h) rfl (fun W => (rn_extract (hF731.get rfl) rfl)) ?_
              intro a732 hF733; clear hF731
              refine anyg_pure (i := 44) (v := (.int .u32 (((mix4 (v2.getD (i2 % 4) 0) (v2.getD (4 + (i2 % 4)) 0) (v2.getD (8 + (i2 % 4)) 0) (v2.getD (12 + (i2 % 4)) 0) (m.getD ((permRow r).getD (2 * i2) 0) 0) (m.getD ((permRow r).getD ((2 * i2) + 1) 0) 0)).b).toNat : Nat))) hF733 (by decide +kernel) (by decide +kernel) rfl rfl rfl rfl (fun _ _ _ _ h => h) rfl (fun W => (rn_extract (hF733.get rfl) rfl)) ?_
              intro a734 hF735; clear hF733
              refine anyg_pure (i := 45) (v := (.int .u32 (((mix4 (v2.getD (i2 % 4) 0) (v2.getD (4 + (i2 % 4)) 0) (v2.getD (8 + (i2 % 4)) 0) (v2.getD (12 + (i2 % 4)) 0) (m.getD ((permRow r).getD (2 * i2) 0) 0) (m.getD ((permRow r).getD ((2 * i2) + 1) 0) 0)).c).toNat : Nat))) hF735 (by decide +kernel) (by decide +kernel) rfl rfl rfl rfl (fun _ _ _ _ h => h) rfl (fun W => (rn_extract (hF735.get rfl) rfl)) ?_
              intro a736 hF737; clear hF735
              refine anyg_pure (i := 46) (v := (.int .u32 (((mix4 (v2.getD (i2 % 4) 0) (v2.getD (4 + (i2 % 4)) 0) (v2.getD (8 + (i2 % 4)) 0) (v2.getD (12 + (i2 % 4)) 0) (m.getD ((permRow r).getD (2 * i2) 0) 0) (m.getD ((permRow r).getD ((2 * i2) + 1) 0) 0)).d).toNat : Nat))) hF737 (by decide +kernel) (by decide +kernel) rfl rfl rfl rfl (fun _ _ _ _ h => h) rfl (fun W => (rn_extract (hF737.get rfl) rfl)) ?_
              intro a738 hF739; clear hF737
              refine anyg_pure (i := 47) (v := (.pointer (some ⟨g125, 0 + (i2 % 4), none⟩))) hF739 (by decide +kernel) (by decide +kernel) rfl rfl rfl rfl (fun _ _ _ _ h => h) rfl (fun W => (rn_indexArr Tryd.underlying62 (by kernel_rfl : (Tryd.prog.info? 47).map (·.size) = some 1) (hF739.get rfl) (hF739.get rfl) (by omega : (0 : Int) ≤ (i2 % 4 : Nat)) (by omega : ((i2 % 4 : Nat) : Int) < ((16 : Nat) : Int)))) ?_
              intro a740 hF741; clear hF739
              refine anyg_one (i := 48) (by decide +kernel) rfl ?_
              refine o_store1 (new := (u32Vals (v2.set (i2 % 4) ((mix4 (v2.getD (i2 % 4) 0) (v2.getD (4 + (i2 % 4)) 0) (v2.getD (8 + (i2 % 4)) 0) (v2.getD (12 + (i2 % 4)) 0) (m.getD ((permRow r).getD (2 * i2) 0) 0) (m.getD ((permRow r).getD ((2 * i2) + 1) 0) 0)).a)))) hF741 rfl rfl rfl rfl (hF741.get rfl) (hF741.get rfl) b727 (by kernel_rfl : (Tryd.prog.info? 47).map (·.size) = some 1) (by rw [u32Vals_len hvl2]; omega) rfl (u32Vals_set (by omega)) ?_
              intro w742 b743 hg744; have z745 := hg744.size
              have b746 : Blk w742 g408 72 (intVals ([((i2 % 4 : Nat) : Int), ((4 + (i2 % 4) : Nat) : Int), ((8 + (i2 % 4) : Nat) : Int), ((12 + (i2 % 4) : Nat) : Int)])) := (b726.grownN hg744 (by omega))
              have b747 : Blk w742 g299 70 (intVals permI) := (b728.grownN hg744 (by omega))
              have b748 : Blk w742 g21 62 (u32Vals m) := (b729.grownN hg744 (by omega))
              refine ⟨⟨fun h => absurd h (by decide), fun _ => ⟨b746, b747, b748⟩⟩, ?_⟩
              refine anyg_pure (i := 49) (v := (.pointer (some ⟨g125, 0 + (4 + (i2 % 4)), none⟩))) hF741 (by decide +kernel) (by decide +kernel) rfl rfl rfl rfl (fun _ _ _ _ h => h) rfl (fun W => (rn_indexArr Tryd.underlying62 (by kernel_rfl : (Tryd.prog.info? 47).map (·.size) = some 1) (hF741.get rfl) (hF741.get rfl) (by omega : (0 : Int) ≤ (4 + (i2 % 4) : Nat)) (by omega : ((4 + (i2 % 4) : Nat) : Int) < ((16 : Nat) : Int)))) ?_
              intro a749 hF750; clear hF741
              refine anyg_one (i := 50) (by decide +kernel) rfl ?_
              refine o_store1 (new := (u32Vals ((v2.set (i2 % 4) ((mix4 (v2.getD (i2 % 4) 0) (v2.getD (4 + (i2 % 4)) 0) (v2.getD (8 + (i2 % 4)) 0) (v2.getD (12 + (i2 % 4)) 0) (m.getD ((permRow r).getD (2 * i2) 0) 0) (m.getD ((permRow r).getD ((2 * i2) + 1) 0) 0)).a)).set (4 + (i2 % 4)) ((mix4 (v2.getD (i2 % 4) 0) (v2.getD (4 + (i2 % 4)) 0) (v2.getD (8 + (i2 % 4)) 0) (v2.getD (12 + (i2 % 4)) 0) (m.getD ((permRow r).getD (2 * i2) 0) 0) (m.getD ((permRow r).getD ((2 * i2) + 1) 0) 0)).b)))) hF750 rfl rfl rfl rfl (hF750.get rfl) (hF750.get rfl) b743 (by kernel_rfl : (Tryd.prog.info? 47).map (·.size) = some 1) (by rw [u32Vals_len (show List.length (v2.set (i2 % 4) ((mix4 (v2.getD (i2 % 4) 0) (v2.getD (4 + (i2 % 4)) 0) (v2.getD (8 + (i2 % 4)) 0) (v2.getD (12 + (i2 % 4)) 0) (m.getD ((permRow r).getD (2 * i2) 0) 0) (m.getD ((permRow r).getD ((2 * i2) + 1) 0) 0)).a)) = _ from List.length_set.trans hvl2)]; omega) rfl (u32Vals_set (by omega)) ?_
              intro w751 b752 hg753; have z754 := hg753.size
              have b755 : Blk w751 g408 72 (intVals ([((i2 % 4 : Nat) : Int), ((4 + (i2 % 4) : Nat) : Int), ((8 + (i2 % 4) : Nat) : Int), ((12 + (i2 % 4) : Nat) : Int)])) := (b746.grownN hg753 (by omega))
              have b756 : Blk w751 g299 70 (intVals permI) := (b747.grownN hg753 (by omega))
              have b757 : Blk w751 g21 62 (u32Vals m) := (b748.grownN hg753 (by omega))
              refine ⟨⟨fun h => absurd h (by decide), fun _ => ⟨b755, b756, b757⟩⟩, ?_⟩
              refine anyg_pure (i := 51) (v := (.pointer (some ⟨g125, 0 + (8 + (i2 % 4)), none⟩))) hF750 (by decide +kernel) (by decide +kernel) rfl rfl rfl rfl (fun _ _ _ _ h => h) rfl (fun W => (rn_indexArr Tryd.underlying62 (by kernel_rfl : (Tryd.prog.info? 47).map (·.size) = some 1) (hF750.get rfl) (hF750.get rfl) (by omega : (0 : Int) ≤ (8 + (i2 % 4) : Nat)) (by omega : ((8 + (i2 % 4) : Nat) : Int) < ((16 : Nat) : Int)))) ?_
              intro a758 hF759; clear hF750
              refine anyg_one (i := 52) (by decide +kernel) rfl ?_
              refine o_store1 (new := (u32Vals (((v2.set (i2 % 4) ((mix4 (v2.getD (i2 % 4) 0) (v2.getD (4 + (i2 % 4)) 0) (v2.getD (8 + (i2 % 4)) 0) (v2.getD (12 + (i2 % 4)) 0) (m.getD ((permRow r).getD (2 * i2) 0) 0) (m.getD ((permRow r).getD ((2 * i2) + 1) 0) 0)).a)).set (4 + (i2 % 4)) ((mix4 (v2.getD (i2 % 4) 0) (v2.getD (4 + (i2 % 4)) 0) (v2.getD (8 + (i2 % 4)) 0) (v2.getD (12 + (i2 % 4)) 0) (m.getD ((permRow r).getD (2 * i2) 0) 0) (m.getD ((permRow r).getD ((2 * i2) + 1) 0) 0)).b)).set (8 + (i2 % 4)) ((mix4 (v2.getD (i2 % 4) 0) (v2.getD (4 + (i2 % 4)) 0) (v2.getD (8 + (i2 % 4)) 0) (v2.getD (12 + (i2 % 4)) 0) (m.getD ((permRow r).getD (2 * i2) 0) 0) (m.getD ((permRow r).getD ((2 * i2) + 1) 0) 0)).c)))) hF759 rfl rfl rfl rfl (hF759.get rfl) (hF759.get rfl) b752 (by kernel_rfl : (Tryd.prog.info? 47).map (·.size) = some 1) (by rw [u32Vals_len (show List.length ((v2.set (i2 % 4) ((mix4 (v2.getD (i2 % 4) 0) (v2.getD (4 + (i2 % 4)) 0) (v2.getD (8 + (i2 % 4)) 0) (v2.getD (12 + (i2 % 4)) 0) (m.getD ((permRow r).getD (2 * i2) 0) 0) (m.getD ((permRow r).getD ((2 * i2) + 1) 0) 0)).a)).set (4 + (i2 % 4)) ((mix4 (v2.getD (i2 % 4) 0) (v2.getD (4 + (i2 % 4)) 0) (v2.getD (8 + (i2 % 4)) 0) (v2.getD (12 + (i2 % 4)) 0) (m.getD ((permRow r).getD (2 * i2) 0) 0) (m.getD ((permRow r).getD ((2 * i2) + 1) 0) 0)).b)) = _ from List.length_set.trans (show List.length (v2.set (i2 % 4) ((mix4 (v2.getD (i2 % 4) 0) (v2.getD (4 + (i2 % 4)) 0) (v2.getD (8 + (i2 % 4)) 0) (v2.getD (12 + (i2 % 4)) 0) (m.getD ((permRow r).getD (2 * i2) 0) 0) (m.getD ((permRow r).getD ((2 * i2) + 1) 0) 0)).a)) = _ from List.length_set.trans hvl2))]; omega) rfl (u32Vals_set (by omega)) ?_
              intro w760 b761 hg762; have z763 := hg762.size
              have b764 : Blk w760 g408 72 (intVals ([((i2 % 4 : Nat) : Int), ((4 + (i2 % 4) : Nat) : Int), ((8 + (i2 % 4) : Nat) : Int), ((12 + (i2 % 4) : Nat) : Int)])) := (b755.grownN hg762 (by omega))
              have b765 : Blk w760 g299 70 (intVals permI) := (b756.grownN hg762 (by omega))
              have b766 : Blk w760 g21 62 (u32Vals m) := (b757.grownN hg762 (by omega))
              refine ⟨⟨fun h => absurd h (by decide), fun _ => ⟨b764, b765, b766⟩⟩, ?_⟩
              refine anyg_pure (i := 53) (v := (.pointer (some ⟨g125, 0 + (12 + (i2 % 4)), none⟩))) hF759 (by decide +kernel) (by decide +kernel) rfl rfl rfl rfl (fun _ _ _ _ h => h) rfl (fun W => (rn_indexArr Tryd.underlying62 (by kernel_rfl : (Tryd.prog.info? 47).map (·.size) = some 1) (hF759.get rfl) (hF759.get rfl) (by omega : (0 : Int) ≤ (12 + (i2 % 4) : Nat)) (by omega : ((12 + (i2 % 4) : Nat) : Int) < ((16 : Nat) : Int)))) ?_
              intro a767 hF768; clear hF759
              refine anyg_one (i := 54) (by decide +kernel) rfl ?_
              refine o_store1 (new := (u32Vals ((((v2.set (i2 % 4) ((mix4 (v2.getD (i2 % 4) 0) (v2.getD (4 + (i2 % 4)) 0) (v2.getD (8 + (i2 % 4)) 0) (v2.getD (12 + (i2 % 4)) 0) (m.getD ((permRow r).getD (2 * i2) 0) 0) (m.getD ((permRow r).getD ((2 * i2) + 1) 0) 0)).a)).set (4 + (i2 % 4)) ((mix4 (v2.getD (i2 % 4) 0) (v2.getD (4 + (i2 % 4)) 0) (v2.getD (8 + (i2 % 4)) 0) (v2.getD (12 + (i2 % 4)) 0) (m.getD ((permRow r).getD (2 * i2) 0) 0) (m.getD ((permRow r).getD ((2 * i2) + 1) 0) 0)).b)).set (8 + (i2 % 4)) ((mix4 (v2.getD (i2 % 4) 0) (v2.getD (4 + (i2 % 4)) 0) (v2.getD (8 + (i2 % 4)) 0) (v2.getD (12 + (i2 % 4)) 0) (m.getD ((permRow r).getD (2 * i2) 0) 0) (m.getD ((permRow r).getD ((2 * i2) + 1) 0) 0)).c)).set (12 + (i2 % 4)) ((mix4 (v2.getD (i2 % 4) 0) (v2.getD (4 + (i2 % 4)) 0) (v2.getD (8 + (i2 % 4)) 0) (v2.getD (12 + (i2 % 4)) 0) (m.getD ((permRow r).getD (2 * i2) 0) 0) (m.getD ((permRow r).getD ((2 * i2) + 1) 0) 0)).d)))) hF768 rfl rfl rfl rfl (hF768.get rfl) (hF768.get rfl) b761 (by kernel_rfl : (Tryd.prog.info? 47).map (·.size) = some 1) (by rw [u32Vals_len (show List.length (((v2.set (i2 % 4) ((mix4 (v2.getD (i2 % 4) 0) (v2.getD (4 + (i2 % 4)) 0) (v2.getD (8 + (i2 % 4)) 0) (v2.getD (12 + (i2 % 4)) 0) (m.getD ((permRow r).getD (2 * i2) 0) 0) (m.getD ((permRow r).getD ((2 * i2) + 1) 0) 0)).a)).set (4 + (i2 % 4)) ((mix4 (v2.getD (i2 % 4) 0) (v2.getD (4 + (i2 % 4)) 0) (v2.getD (8 + (i2 % 4)) 0) (v2.getD (12 + (i2 % 4)) 0) (m.getD ((permRow r).getD (2 * i2) 0) 0) (m.getD ((permRow r).getD ((2 * i2) + 1) 0) 0)).b)).set (8 + (i2 % 4)) ((mix4 (v2.getD (i2 % 4) 0) (v2.getD (4 + (i2 % 4)) 0) (v2.getD (8 + (i2 % 4)) 0) (v2.getD (12 + (i2 % 4)) 0) (m.getD ((permRow r).getD (2 * i2) 0) 0) (m.getD ((permRow r).getD ((2 * i2) + 1) 0) 0)).c)) = _ from List.length_set.trans (show List.length ((v2.set (i2 % 4) ((mix4 (v2.getD (i2 % 4) 0) (v2.getD (4 + (i2 % 4)) 0) (v2.getD (8 + (i2 % 4)) 0) (v2.getD (12 + (i2 % 4)) 0) (m.getD ((permRow r).getD (2 * i2) 0) 0) (m.getD ((permRow r).getD ((2 * i2) + 1) 0) 0)).a)).set (4 + (i2 % 4)) ((mix4 (v2.getD (i2 % 4) 0) (v2.getD (4 + (i2 % 4)) 0) (v2.getD (8 + (i2 % 4)) 0) (v2.getD (12 + (i2 % 4)) 0) (m.getD ((permRow r).getD (2 * i2) 0) 0) (m.getD ((permRow r).getD ((2 * i2) + 1) 0) 0)).b)) = _ from List.length_set.trans (show List.length (v2.set (i2 % 4) ((mix4 (v2.getD (i2 % 4) 0) (v2.getD (4 + (i2 % 4)) 0) (v2.getD (8 + (i2 % 4)) 0) (v2.getD (12 + (i2 % 4)) 0) (m.getD ((permRow r).getD (2 * i2) 0) 0) (m.getD ((permRow r).getD ((2 * i2) + 1) 0) 0)).a)) = _ from List.length_set.trans hvl2)))]; omega) rfl (u32Vals_set (by omega)) ?_
              intro w769 b770 hg771; have z772 := hg771.size
              have b773 : Blk w769 g408 72 (intVals ([((i2 % 4 : Nat) : Int), ((4 + (i2 % 4) : Nat) : Int), ((8 + (i2 % 4) : Nat) : Int), ((12 + (i2 % 4) : Nat) : Int)])) := (b764.grownN hg771 (by omega))
              have b774 : Blk w769 g299 70 (intVals permI) := (b765.grownN hg771 (by omega))
              have b775 : Blk w769 g21 62 (u32Vals m) := (b766.grownN hg771 (by omega))
              refine ⟨⟨fun h => absurd h (by decide), fun _ => ⟨b773, b774, b775⟩⟩, ?_⟩
              refine anyg_nil (by decide +kernel) ?_
              refine hK383 _ _ ?_
              clear hK383
              have hF776 := ((((((((((((((((((((((hF768.nil.cons (hF768.get (t := 97) (v := (.bool (decide ((4 : Int) ≤ ((i2 : Nat) : Int))))) rfl)).cons (hF768.get (t := 18) (v := (.pointer (some ⟨g408, 0, none⟩))) rfl)).cons (hF768.get (t := 17) (v := (.int .i64 (i2 % 4 : Nat))) rfl)).cons (hF768.get (t := 83) (v := (.bool (decide (((i2 : Nat) : Int) < (8 : Int))))) rfl)).cons (hF768.get (t := 16) (v := (.int .i64 (i2 : Nat))) rfl)).cons (hF768.get (t := 79) (v := (.bool (decide (((r : Nat) : Int) < (10 : Int))))) rfl)).cons (hF768.get (t := 15) (v := (.int .i64 (r : Nat))) rfl)).cons (hF768.get (t := 14) (v := (.pointer (some ⟨g299, 0, none⟩))) rfl)).cons (hF768.get (t := 72) (v := (.bool last)) rfl)).cons (hF768.get (t := 45) (v := (.bool (decide (((k1 : Nat) : Int) < (8 : Int))))) rfl)).cons (hF768.get (t := 13) (v := (.int .i64 (k1 : Nat))) rfl)).cons (hF768.get (t := 12) (v := (.pointer (some ⟨g143, 0, none⟩))) rfl)).cons (hF768.get (t := 11) (v := (.pointer (some ⟨g125, 0, none⟩))) rfl)).cons (hF768.get (t := 22) (v := (.bool (decide (((k : Nat) : Int) < (64 : Int))))) rfl)).cons (hF768.get (t := 10) (v := (.int .i64 (k : Nat))) rfl)).cons (hF768.get (t := 9) (v := (.pointer (some ⟨g21, 0, none⟩))) rfl)).cons (hF768.get (t := 8) (v := (.pointer (some ⟨g10, 0, none⟩))) rfl)).cons (hF768.get (t := 4) (v := (.pointer (some ⟨g2, 0, none⟩))) rfl)).cons (hF768.get (t := 3) (v := (.bool last)) rfl)).cons (hF768.get (t := 2) (v := (.int .u64 (n.toNat : Nat))) rfl)).cons (hF768.get (t := 1) (v := (.slice A 64 c)) rfl)).cons (hF768.get (t := 0) (v := (.agg (u32Vals h).toArray)) rfl))
              clear hF768
              refine wp_region_lit ?_
              refine wpl_op (i := 0) rfl (o_val (v := (.int .i64 (i2 : Nat))) hF776 rfl rfl rfl rfl (rn_move (hF776.get rfl)) ?_)
              intro a777 hF778; clear hF776
              refine wpl_op (i := 1) rfl (o_val (v := (.int .i64 (i2 + 1 : Nat))) hF778 rfl rfl rfl rfl (rn_addN (a := i2) (b := 1) (hF778.get rfl) rfl (by omega)) ?_)
              intro a779 hF780; clear hF778
              refine wpl_op (i := 2) rfl (o_val (v := (.int .i64 (i2 + 1 : Nat))) hF780 rfl rfl rfl rfl (rn_assign (hF780.get rfl)) ?_)
              intro a781 hF782; clear hF780
              refine wpList_nil ?_
              obtain ⟨v783, e784⟩ : ∃ z, z = (((v2.set (i2 % 4) ((mix4 (v2.getD (i2 % 4) 0) (v2.getD (4 + (i2 % 4)) 0) (v2.getD (8 + (i2 % 4)) 0) (v2.getD (12 + (i2 % 4)) 0) (m.getD ((permRow r).getD (2 * i2) 0) 0) (m.getD ((permRow r).getD ((2 * i2) + 1) 0) 0)).a)).set (4 + (i2 % 4)) ((mix4 (v2.getD (i2 % 4) 0) (v2.getD (4 + (i2 % 4)) 0) (v2.getD (8 + (i2 % 4)) 0) (v2.getD (12 + (i2 % 4)) 0) (m.getD ((permRow r).getD (2 * i2) 0) 0) (m.getD ((permRow r).getD ((2 * i2) + 1) 0) 0)).b)).set (8 + (i2 % 4)) ((mix4 (v2.getD (i2 % 4) 0) (v2.getD (4 + (i2 % 4)) 0) (v2.getD (8 + (i2 % 4)) 0) (v2.getD (12 + (i2 % 4)) 0) (m.getD ((permRow r).getD (2 * i2) 0) 0) (m.getD ((permRow r).getD ((2 * i2) + 1) 0) 0)).c)).set (12 + (i2 % 4)) ((mix4 (v2.getD (i2 % 4) 0) (v2.getD (4 + (i2 % 4)) 0) (v2.getD (8 + (i2 % 4)) 0) (v2.getD (12 + (i2 % 4)) 0) (m.getD ((permRow r).getD (2 * i2) 0) 0) (m.getD ((permRow r).getD ((2 * i2) + 1) 0) 0)).d) := ⟨_, rfl⟩
              have hl785 : v783.length = 16 := (congrArg List.length e784).trans (show List.length ((((v2.set (i2 % 4) ((mix4 (v2.getD (i2 % 4) 0) (v2.getD (4 + (i2 % 4)) 0) (v2.getD (8 + (i2 % 4)) 0) (v2.getD (12 + (i2 % 4)) 0) (m.getD ((permRow r).getD (2 * i2) 0) 0) (m.getD ((permRow r).getD ((2 * i2) + 1) 0) 0)).a)).set (4 + (i2 % 4)) ((mix4 (v2.getD (i2 % 4) 0) (v2.getD (4 + (i2 % 4)) 0) (v2.getD (8 + (i2 % 4)) 0) (v2.getD (12 + (i2 % 4)) 0) (m.getD ((permRow r).getD (2 * i2) 0) 0) (m.getD ((permRow r).getD ((2 * i2) + 1) 0) 0)).b)).set (8 + (i2 % 4)) ((mix4 (v2.getD (i2 % 4) 0) (v2.getD (4 + (i2 % 4)) 0) (v2.getD (8 + (i2 % 4)) 0) (v2.getD (12 + (i2 % 4)) 0) (m.getD ((permRow r).getD (2 * i2) 0) 0) (m.getD ((permRow r).getD ((2 * i2) + 1) 0) 0)).c)).set (12 + (i2 % 4)) ((mix4 (v2.getD (i2 % 4) 0) (v2.getD (4 + (i2 % 4)) 0) (v2.getD (8 + (i2 % 4)) 0) (v2.getD (12 + (i2 % 4)) 0) (m.getD ((permRow r).getD (2 * i2) 0) 0) (m.getD ((permRow r).getD ((2 * i2) + 1) 0) 0)).d)) = _ from List.length_set.trans (show List.length (((v2.set (i2 % 4) ((mix4 (v2.getD (i2 % 4) 0) (v2.getD (4 + (i2 % 4)) 0) (v2.getD (8 + (i2 % 4)) 0) (v2.getD (12 + (i2 % 4)) 0) (m.getD ((permRow r).getD (2 * i2) 0) 0) (m.getD ((permRow r).getD ((2 * i2) + 1) 0) 0)).a)).set (4 + (i2 % 4)) ((mix4 (v2.getD (i2 % 4) 0) (v2.getD (4 + (i2 % 4)) 0) (v2.getD (8 + (i2 % 4)) 0) (v2.getD (12 + (i2 % 4)) 0) (m.getD ((permRow r).getD (2 * i2) 0) 0) (m.getD ((permRow r).getD ((2 * i2) + 1) 0) 0)).b)).set (8 + (i2 % 4)) ((mix4 (v2.getD (i2 % 4) 0) (v2.getD (4 + (i2 % 4)) 0) (v2.getD (8 + (i2 % 4)) 0) (v2.getD (12 + (i2 % 4)) 0) (m.getD ((permRow r).getD (2 * i2) 0) 0) (m.getD ((permRow r).getD ((2 * i2) + 1) 0) 0)).c)) = _ from List.length_set.trans (show List.length ((v2.set (i2 % 4) ((mix4 (v2.getD (i2 % 4) 0) (v2.getD (4 + (i2 % 4)) 0) (v2.getD (8 + (i2 % 4)) 0) (v2.getD (12 + (i2 % 4)) 0) (m.getD ((permRow r).getD (2 * i2) 0) 0) (m.getD ((permRow r).getD ((2 * i2) + 1) 0) 0)).a)).set (4 + (i2 % 4)) ((mix4 (v2.getD (i2 % 4) 0) (v2.getD (4 + (i2 % 4)) 0) (v2.getD (8 + (i2 % 4)) 0) (v2.getD (12 + (i2 % 4)) 0) (m.getD ((permRow r).getD (2 * i2) 0) 0) (m.getD ((permRow r).getD ((2 * i2) + 1) 0) 0)).b)) = _ from List.length_set.trans (show List.length (v2.set (i2 % 4) ((mix4 (v2.getD (i2 % 4) 0) (v2.getD (4 + (i2 % 4)) 0) (v2.getD (8 + (i2 % 4)) 0) (v2.getD (12 + (i2 % 4)) 0) (m.getD ((permRow r).getD (2 * i2) 0) 0) (m.getD ((permRow r).getD ((2 * i2) + 1) 0) 0)).a)) = _ from List.length_set.trans hvl2))))
              rw [← e784] at b770
              have b786 : Blk w769 g2 48 (u32Vals h) := ((((((((b361.ext hx411).grownN hg418 (by omega)).ext hx628).ext hx722).grownN hg744 (by omega)).grownN hg753 (by omega)).grownN hg762 (by omega)).grownN hg771 (by omega))
              have b787 : Blk w769 g10 48 (u32Vals (List.replicate 8 0)) := ((((((((b362.ext hx411).grownN hg418 (by omega)).ext hx628).ext hx722).grownN hg744 (by omega)).grownN hg753 (by omega)).grownN hg762 (by omega)).grownN hg771 (by omega))
              have b788 : Blk w769 g143 48 (u32Vals iv) := ((((((((b365.ext hx411).grownN hg418 (by omega)).ext hx628).ext hx722).grownN hg744 (by omega)).grownN hg753 (by omega)).grownN hg762 (by omega)).grownN hg771 (by omega))
              refine ⟨⟨(i2 + 1), v783, ((((((((((((((((((hF782.nil.cons (q_get hF782 (t := 16) rfl (by first | rfl | (congr 1; omega) | (congr 1; done)))).cons (q_get hF782 (t := 79) rfl rfl)).cons (q_get hF782 (t := 15) rfl rfl)).cons (q_get hF782 (t := 14) rfl rfl)).cons (q_get hF782 (t := 72) rfl rfl)).cons (q_get hF782 (t := 45) rfl rfl)).cons (q_get hF782 (t := 13) rfl rfl)).cons (q_get hF782 (t := 12) rfl rfl)).cons (q_get hF782 (t := 11) rfl rfl)).cons (q_get hF782 (t := 22) rfl rfl)).cons (q_get hF782 (t := 10) rfl rfl)).cons (q_get hF782 (t := 9) rfl rfl)).cons (q_get hF782 (t := 8) rfl rfl)).cons (q_get hF782 (t := 4) rfl rfl)).cons (q_get hF782 (t := 3) rfl rfl)).cons (q_get hF782 (t := 2) rfl rfl)).cons (q_get hF782 (t := 1) rfl rfl)).cons (q_get hF782 (t := 0) rfl rfl)), (by omega), (mixTo_r1 (by omega) hp360 rfl rfl rfl rfl rfl e784), ((((((((((Ext.refl w).trans hx358).trans hx411).grownN hg418 (by omega)).trans hx628).trans hx722).grownN hg744 (by omega)).grownN hg753 (by omega)).grownN hg762 (by omega)).grownN hg771 (by omega)), b786, b787, b775, b770, b788, b774, (by omega)⟩, ?_⟩
              rw [hF782.get (t := 16) rfl, hL368.get (t := 16) rfl]; simp [intOf] <;> omega
          · skip
            refine wp_cond_false (c_false hF381 rfl (decide_eq_false hc382)) ?_
            refine wp_exit ?_
            refine exit_then ?_
            refine exit_then ?_
            refine exit_here ?_
            refine hK351 _ _ ?_
            clear hK351
            refine wp_region_lit ?_
            refine wpl_op (i := 0) rfl (o_val (v := (.int .i64 (r : Nat))) hF381 rfl rfl rfl rfl (rn_move (hF381.get rfl)) ?_)
            intro a789 hF790; clear hF381
            refine wpl_op (i := 1) rfl (o_val (v := (.int .i64 (r + 1 : Nat))) hF790 rfl rfl rfl rfl (rn_addN (a := r) (b := 1) (hF790.get rfl) rfl (by omega)) ?_)
            intro a791 hF792; clear hF790
            refine wpl_op (i := 2) rfl (o_val (v := (.int .i64 (r + 1 : Nat))) hF792 rfl rfl rfl rfl (rn_assign (hF792.get rfl)) ?_)
            intro a793 hF794; clear hF792
            refine wpList_nil ?_
            refine ⟨⟨(r + 1), v2, ((((((((((((((((hF794.nil.cons (q_get hF794 (t := 15) rfl (by first | rfl | (congr 1; omega) | (congr 1; done)))).cons (q_get hF794 (t := 14) rfl rfl)).cons (q_get hF794 (t := 72) rfl rfl)).cons (q_get hF794 (t := 45) rfl rfl)).cons (q_get hF794 (t := 13) rfl rfl)).cons (q_get hF794 (t := 12) rfl rfl)).cons (q_get hF794 (t := 11) rfl rfl)).cons (q_get hF794 (t := 22) rfl rfl)).cons (q_get hF794 (t := 10) rfl rfl)).cons (q_get hF794 (t := 9) rfl rfl)).cons (q_get hF794 (t := 8) rfl rfl)).cons (q_get hF794 (t := 4) rfl rfl)).cons (q_get hF794 (t := 3) rfl rfl)).cons (q_get hF794 (t := 2) rfl rfl)).cons (q_get hF794 (t := 1) rfl rfl)).cons (q_get hF794 (t := 0) rfl rfl)), (by omega), (roundTo_step (by omega) hp328 (by rw [hp360, show i2 = 8 by omega])), ((Ext.refl w).trans hx358), b361, b362, b363, b364, b365, b366, (by omega)⟩, ?_⟩
            rw [hF794.get (t := 15) rfl, hL336.get (t := 15) rfl]; simp [intOf] <;> omega
        · skip
          refine wp_cond_false (c_false hF349 rfl (decide_eq_false hc350)) ?_
          refine wp_exit ?_
          refine exit_then ?_
          refine exit_then ?_
          refine exit_here ?_
          refine hK311 _ _ ?_
          clear hK311
          refine wp_seq_k (fun K795 hK795 => ?_)
          refine wp_seq_k (fun K796 hK796 => ?_)
          refine wp_region_lit ?_
          refine wpl_op (i := 0) rfl (o_val (v := (.int .i64 0)) hF349 rfl rfl rfl rfl (rn_assign rfl) ?_)
          intro a797 hF798; clear hF349
          refine wpList_nil ?_
          refine hK796 _ _ ?_
          clear hK796
          refine wp_block ?_
          have hv10 : v = roundTo (words b) (begin_ h n last) 10 := by rw [hp328, hv1, hmw, show r = 10 from by omega]
          refine wp_loop (fun a' W => ∃ (k5 : Nat) (hh2 : List UInt32), Sl 182 [(0, (.agg (u32Vals h).toArray)), (1, (.slice A 64 c)), (2, (.int .u64 (n.toNat : Nat))), (3, (.bool last)), (4, (.pointer (some ⟨g2, 0, none⟩))), (8, (.pointer (some ⟨g10, 0, none⟩))), (9, (.pointer (some ⟨g21, 0, none⟩))), (10, (.int .i64 (k : Nat))), (22, (.bool (decide (((k : Nat) : Int) < (64 : Int))))), (11, (.pointer (some ⟨g125, 0, none⟩))), (12, (.pointer (some ⟨g143, 0, none⟩))), (13, (.int .i64 (k1 : Nat))), (45, (.bool (decide (((k1 : Nat) : Int) < (8 : Int))))), (72, (.bool last)), (14, (.pointer (some ⟨g299, 0, none⟩))), (15, (.int .i64 (r : Nat))), (79, (.bool (decide (((r : Nat) : Int) < (10 : Int))))), (19, (.int .i64 (k5 : Nat)))] a' ∧ k5 ≤ 8 ∧ hh2 = closeTo v h k5 ∧ Ext w W ∧ Blk W g2 48 (u32Vals hh2) ∧ Blk W g10 48 (u32Vals (List.replicate 8 0)) ∧ Blk W g21 62 (u32Vals m) ∧ Blk W g125 62 (u32Vals v) ∧ Blk W g143 48 (u32Vals iv) ∧ Blk W g299 70 (intVals permI) ∧ w324.heap.size ≤ W.heap.size) (fun a' _ => 8 - (intOf (a'.eval (.tmp 19))).toNat) ⟨0, h, ((((((((((((((((((hF798.nil.cons (q_get hF798 (t := 19) rfl (by first | rfl | (congr 1; omega) | (congr 1; done)))).cons (q_get hF798 (t := 79) rfl rfl)).cons (q_get hF798 (t := 15) rfl rfl)).cons (q_get hF798 (t := 14) rfl rfl)).cons (q_get hF798 (t := 72) rfl rfl)).cons (q_get hF798 (t := 45) rfl rfl)).cons (q_get hF798 (t := 13) rfl rfl)).cons (q_get hF798 (t := 12) rfl rfl)).cons (q_get hF798 (t := 11) rfl rfl)).cons (q_get hF798 (t := 22) rfl rfl)).cons (q_get hF798 (t := 10) rfl rfl)).cons (q_get hF798 (t := 9) rfl rfl)).cons (q_get hF798 (t := 8) rfl rfl)).cons (q_get hF798 (t := 4) rfl rfl)).cons (q_get hF798 (t := 3) rfl rfl)).cons (q_get hF798 (t := 2) rfl rfl)).cons (q_get hF798 (t := 1) rfl rfl)).cons (q_get hF798 (t := 0) rfl rfl)), (by omega), rfl, ((Ext.refl w).trans hx326), b329, b330, b331, b332, b333, b334, (Nat.le_refl _)⟩ ?_
          clear hF798
          rintro a799 w800 ⟨k5, hh2, hF801, hp803, hp804, hx802, b805, b806, b807, b808, b809, b810, hf811⟩
          have hL812 := hF801
          have z813 := hx802.size
          have z814 := b805.lt
          have z815 := b806.lt
          have z816 := b807.lt
          have z817 := b808.lt
          have z818 := b809.lt
          have z819 := b810.lt
          have hhl : hh2.length = 8 := by rw [hp804]; exact closeTo_len hh
          refine wp_seq_k (fun K820 hK820 => ?_)
          refine wp_seq_k (fun K821 hK821 => ?_)
          refine wp_region_lit ?_
          refine wpl_op (i := 0) rfl (o_val (v := (.int .i64 (k5 : Nat))) hF801 rfl rfl rfl rfl (rn_move (hF801.get rfl)) ?_)
          intro a822 hF823; clear hF801
          refine wpl_op (i := 1) rfl (o_val (v := (.bool (decide (((k5 : Nat) : Int) < (8 : Int))))) hF823 rfl rfl rfl rfl (rn_lss (hF823.get rfl) rfl) ?_)
          intro a824 hF825; clear hF823
          refine wpList_nil ?_
          refine hK821 _ _ ?_
          clear hK821
          by_cases hc826 : ((k5 : Nat) : Int) < (8 : Int)
          · skip
            refine wp_cond_true (c_true hF825 rfl (decide_eq_true hc826)) ?_
            refine wp_skip ?_
            refine hK820 _ _ ?_
            clear hK820
            refine wp_seq_k (fun K827 hK827 => ?_)
            refine wp_block ?_
            have hx829 : ∃ W, w800.drew = W ∧ Ext w800 W := ⟨_, rfl, (Ext.refl _).drew⟩
            obtain ⟨w828, e830, hx829⟩ := hx829
            have z831 := hx829.size
            refine any_start (fun W => Ext w828 W ∧ Blk W g2 48 (u32Vals hh2) ∧ Blk W g125 62 (u32Vals v)) (fun i => i == 14) 15 #[false, false, false, false, false, false, false, false, false, false, false, false, false, false, false] rfl rfl rfl ?_
            rw [e830]; clear e830
            refine any_pure (i := 0) (v := (.int .i64 (k5 : Nat))) hF825 (by decide +kernel) (by decide +kernel) rfl rfl rfl rfl (fun _ _ _ _ h => h) rfl (fun W => (rn_move (hF825.get rfl))) ?_
            intro a832 hF833; clear hF825
            refine any_pure (i := 1) (v := (.int .i64 (k5 : Nat))) hF833 (by decide +kernel) (by decide +kernel) rfl rfl rfl rfl (fun _ _ _ _ h => h) rfl (fun W => (rn_move (hF833.get rfl))) ?_
            intro a834 hF835; clear hF833
            refine any_pure (i := 2) (v := (.pointer (some ⟨g2, 0 + k5, none⟩))) hF835 (by decide +kernel) (by decide +kernel) rfl rfl rfl rfl (fun _ _ _ _ h => h) rfl (fun W => (rn_indexArr Tryd.underlying48 (by kernel_rfl : (Tryd.prog.info? 47).map (·.size) = some 1) (hF835.get rfl) (hF835.get rfl) (by omega : (0 : Int) ≤ (k5 : Nat)) (by omega : ((k5 : Nat) : Int) < ((8 : Nat) : Int)))) ?_
            intro a836 hF837; clear hF835
            have b839 : Blk w828 g2 48 (u32Vals hh2) := (b805.ext hx829)
            have b840 : Blk w828 g125 62 (u32Vals v) := (b808.ext hx829)
            have hS838 : Ext w828 w828 ∧ Blk w828 g2 48 (u32Vals hh2) ∧ Blk w828 g125 62 (u32Vals v) := ⟨(Ext.refl w828), b839, b840⟩
            refine any_val (i := 3) (v := (.int .u32 ((hh2.getD k5 0).toNat : Nat))) hF837 (by decide +kernel) (by decide +kernel) rfl rfl rfl rfl (fun _ _ _ _ h => h) rfl hS838 (fun W hW => (rn_load (isAgg_no Tryd.underlying47 rfl) (hF837.get rfl) (blk_word hW.2.1 (by omega) (by have := (show List.length hh2 = _ from hhl); omega)))) ?_
            intro a841 hF842; clear hF837
            refine any_pure (i := 4) (v := (.int .i64 (k5 : Nat))) hF842 (by decide +kernel) (by decide +kernel) rfl rfl rfl rfl (fun _ _ _ _ h => h) rfl (fun W => (rn_move (hF842.get rfl))) ?_
            intro a843 hF844; clear hF842
            refine any_pure (i := 5) (v := (.pointer (some ⟨g125, 0 + k5, none⟩))) hF844 (by decide +kernel) (by decide +kernel) rfl rfl rfl rfl (fun _ _ _ _ h => h) rfl (fun W => (rn_indexArr Tryd.underlying62 (by kernel_rfl : (Tryd.prog.info? 47).map (·.size) = some 1) (hF844.get rfl) (hF844.get rfl) (by omega : (0 : Int) ≤ (k5 : Nat)) (by omega : ((k5 : Nat) : Int) < ((16 : Nat) : Int)))) ?_
            intro a845 hF846; clear hF844
            refine any_val (i := 6) (v := (.int .u32 ((v.getD k5 0).toNat : Nat))) hF846 (by decide +kernel) (by decide +kernel) rfl rfl rfl rfl (fun _ _ _ _ h => h) rfl hS838 (fun W hW => (rn_load (isAgg_no Tryd.underlying47 rfl) (hF846.get rfl) (blk_word hW.2.2 (by omega) (by have := (show List.length v = _ from hvl); omega)))) ?_
            intro a847 hF848; clear hF846
            refine any_pure (i := 7) (v := (.int .u32 (((hh2.getD k5 0) ^^^ (v.getD k5 0)).toNat : Nat))) hF848 (by decide +kernel) (by decide +kernel) rfl rfl rfl rfl (fun _ _ _ _ h => h) rfl (fun W => (rn_xor32 (a := (hh2.getD k5 0)) (b := (v.getD k5 0)) (hF848.get rfl) (hF848.get rfl))) ?_
            intro a849 hF850; clear hF848
            refine any_pure (i := 8) (v := (.int .i64 (k5 : Nat))) hF850 (by decide +kernel) (by decide +kernel) rfl rfl rfl rfl (fun _ _ _ _ h => h) rfl (fun W => (rn_move (hF850.get rfl))) ?_
            intro a851 hF852; clear hF850
            refine any_pure (i := 9) (v := (.int .i64 (8 + k5 : Nat))) hF852 (by decide +kernel) (by decide +kernel) rfl rfl rfl rfl (fun _ _ _ _ h => h) rfl (fun W => (rn_addN (a := 8) (b := k5) rfl (hF852.get rfl) (by omega))) ?_
            intro a853 hF854; clear hF852
            refine any_pure (i := 10) (v := (.pointer (some ⟨g125, 0 + (8 + k5), none⟩))) hF854 (by decide +kernel) (by decide +kernel) rfl rfl rfl rfl (fun _ _ _ _ h => h) rfl (fun W => (rn_indexArr Tryd.underlying62 (by kernel_rfl : (Tryd.prog.info? 47).map (·.size) = some 1) (hF854.get rfl) (hF854.get rfl) (by omega : (0 : Int) ≤ (8 + k5 : Nat)) (by omega : ((8 + k5 : Nat) : Int) < ((16 : Nat) : Int)))) ?_
            intro a855 hF856; clear hF854
            refine any_val (i := 11) (v := (.int .u32 ((v.getD (8 + k5) 0).toNat : Nat))) hF856 (by decide +kernel) (by decide +kernel) rfl rfl rfl rfl (fun _ _ _ _ h => h) rfl hS838 (fun W hW => (rn_load (isAgg_no Tryd.underlying47 rfl) (hF856.get rfl) (blk_word hW.2.2 (by omega) (by have := (show List.length v = _ from hvl); omega)))) ?_
            intro a857 hF858; clear hF856
            refine any_pure (i := 12) (v := (.int .u32 ((((hh2.getD k5 0) ^^^ (v.getD k5 0)) ^^^ (v.getD (8 + k5) 0)).toNat : Nat))) hF858 (by decide +kernel) (by decide +kernel) rfl rfl rfl rfl (fun _ _ _ _ h => h) rfl (fun W => (rn_xor32 (a := ((hh2.getD k5 0) ^^^ (v.getD k5 0))) (b := (v.getD (8 + k5) 0)) (hF858.get rfl) (hF858.get rfl))) ?_
            intro a859 hF860; clear hF858
            refine any_pure (i := 13) (v := (.pointer (some ⟨g2, 0 + k5, none⟩))) hF860 (by decide +kernel) (by decide +kernel) rfl rfl rfl rfl (fun _ _ _ _ h => h) rfl (fun W => (rn_indexArr Tryd.underlying48 (by kernel_rfl : (Tryd.prog.info? 47).map (·.size) = some 1) (hF860.get rfl) (hF860.get rfl) (by omega : (0 : Int) ≤ (k5 : Nat)) (by omega : ((k5 : Nat) : Int) < ((8 : Nat) : Int)))) ?_
            intro a861 hF862; clear hF860
            refine any_one (i := 14) (by decide +kernel) rfl ?_
            refine o_store1 (new := (u32Vals (hh2.set k5 (((hh2.getD k5 0) ^^^ (v.getD k5 0)) ^^^ (v.getD (8 + k5) 0))))) hF862 rfl rfl rfl rfl (hF862.get rfl) (hF862.get rfl) b839 (by kernel_rfl : (Tryd.prog.info? 47).map (·.size) = some 1) (by rw [u32Vals_len hhl]; omega) rfl (u32Vals_set (by omega)) ?_
            intro w863 b864 hg865; have z866 := hg865.size
            refine ⟨fun h => absurd h (by decide), ?_⟩
            refine any_nil (by decide +kernel) ?_
            refine hK827 _ _ ?_
            clear hK827
            have hF867 := (((((((((((((((((((hF862.nil.cons (hF862.get (t := 164) (v := (.bool (decide (((k5 : Nat) : Int) < (8 : Int))))) rfl)).cons (hF862.get (t := 19) (v := (.int .i64 (k5 : Nat))) rfl)).cons (hF862.get (t := 79) (v := (.bool (decide (((r : Nat) : Int) < (10 : Int))))) rfl)).cons (hF862.get (t := 15) (v := (.int .i64 (r : Nat))) rfl)).cons (hF862.get (t := 14) (v := (.pointer (some ⟨g299, 0, none⟩))) rfl)).cons (hF862.get (t := 72) (v := (.bool last)) rfl)).cons (hF862.get (t := 45) (v := (.bool (decide (((k1 : Nat) : Int) < (8 : Int))))) rfl)).cons (hF862.get (t := 13) (v := (.int .i64 (k1 : Nat))) rfl)).cons (hF862.get (t := 12) (v := (.pointer (some ⟨g143, 0, none⟩))) rfl)).cons (hF862.get (t := 11) (v := (.pointer (some ⟨g125, 0, none⟩))) rfl)).cons (hF862.get (t := 22) (v := (.bool (decide (((k : Nat) : Int) < (64 : Int))))) rfl)).cons (hF862.get (t := 10) (v := (.int .i64 (k : Nat))) rfl)).cons (hF862.get (t := 9) (v := (.pointer (some ⟨g21, 0, none⟩))) rfl)).cons (hF862.get (t := 8) (v := (.pointer (some ⟨g10, 0, none⟩))) rfl)).cons (hF862.get (t := 4) (v := (.pointer (some ⟨g2, 0, none⟩))) rfl)).cons (hF862.get (t := 3) (v := (.bool last)) rfl)).cons (hF862.get (t := 2) (v := (.int .u64 (n.toNat : Nat))) rfl)).cons (hF862.get (t := 1) (v := (.slice A 64 c)) rfl)).cons (hF862.get (t := 0) (v := (.agg (u32Vals h).toArray)) rfl))
            clear hF862
            refine wp_region_lit ?_
            refine wpl_op (i := 0) rfl (o_val (v := (.int .i64 (k5 : Nat))) hF867 rfl rfl rfl rfl (rn_move (hF867.get rfl)) ?_)
            intro a868 hF869; clear hF867
            refine wpl_op (i := 1) rfl (o_val (v := (.int .i64 (k5 + 1 : Nat))) hF869 rfl rfl rfl rfl (rn_addN (a := k5) (b := 1) (hF869.get rfl) rfl (by omega)) ?_)
            intro a870 hF871; clear hF869
            refine wpl_op (i := 2) rfl (o_val (v := (.int .i64 (k5 + 1 : Nat))) hF871 rfl rfl rfl rfl (rn_assign (hF871.get rfl)) ?_)
            intro a872 hF873; clear hF871
            refine wpList_nil ?_
            obtain ⟨v874, e875⟩ : ∃ z, z = hh2.set k5 (((hh2.getD k5 0) ^^^ (v.getD k5 0)) ^^^ (v.getD (8 + k5) 0)) := ⟨_, rfl⟩
            have hl876 : v874.length = 8 := (congrArg List.length e875).trans (show List.length (hh2.set k5 (((hh2.getD k5 0) ^^^ (v.getD k5 0)) ^^^ (v.getD (8 + k5) 0))) = _ from List.length_set.trans hhl)
            rw [← e875] at b864
            have b877 : Blk w863 g10 48 (u32Vals (List.replicate 8 0)) := ((b806.ext hx829).grownN hg865 (by omega))
            have b878 : Blk w863 g21 62 (u32Vals m) := ((b807.ext hx829).grownN hg865 (by omega))
            have b879 : Blk w863 g125 62 (u32Vals v) := (b840.grownN hg865 (by omega))
            have b880 : Blk w863 g143 48 (u32Vals iv) := ((b809.ext hx829).grownN hg865 (by omega))
            have b881 : Blk w863 g299 70 (intVals permI) := ((b810.ext hx829).grownN hg865 (by omega))
            refine ⟨⟨(k5 + 1), v874, ((((((((((((((((((hF873.nil.cons (q_get hF873 (t := 19) rfl (by first | rfl | (congr 1; omega) | (congr 1; done)))).cons (q_get hF873 (t := 79) rfl rfl)).cons (q_get hF873 (t := 15) rfl rfl)).cons (q_get hF873 (t := 14) rfl rfl)).cons (q_get hF873 (t := 72) rfl rfl)).cons (q_get hF873 (t := 45) rfl rfl)).cons (q_get hF873 (t := 13) rfl rfl)).cons (q_get hF873 (t := 12) rfl rfl)).cons (q_get hF873 (t := 11) rfl rfl)).cons (q_get hF873 (t := 22) rfl rfl)).cons (q_get hF873 (t := 10) rfl rfl)).cons (q_get hF873 (t := 9) rfl rfl)).cons (q_get hF873 (t := 8) rfl rfl)).cons (q_get hF873 (t := 4) rfl rfl)).cons (q_get hF873 (t := 3) rfl rfl)).cons (q_get hF873 (t := 2) rfl rfl)).cons (q_get hF873 (t := 1) rfl rfl)).cons (q_get hF873 (t := 0) rfl rfl)), (by omega), (closeTo_r hp804 e875), ((((Ext.refl w).trans hx802).trans hx829).grownN hg865 (by omega)), b864, b877, b878, b879, b880, b881, (by omega)⟩, ?_⟩
            rw [hF873.get (t := 19) rfl, hL812.get (t := 19) rfl]; simp [intOf] <;> omega
          · skip
            refine wp_cond_false (c_false hF825 rfl (decide_eq_false hc826)) ?_
            refine wp_exit ?_
            refine exit_then ?_
            refine exit_then ?_
            refine exit_here ?_
            refine hK795 _ _ ?_
            clear hK795
            refine wp_seq_k (fun K882 hK882 => ?_)
            refine wp_region_lit ?_
            refine wpl_op (i := 0) rfl (o_val (v := (.agg (u32Vals hh2).toArray)) hF825 rfl rfl rfl rfl (rn_loadBlk (hF825.get rfl) b805 Tryd.underlying48 rfl ((by kernel_rfl : (Tryd.prog.info? 48).map (·.size) = some 8).trans (congrArg some (u32Vals_len hhl).symm))) ?_)
            intro a883 hF884; clear hF825
            refine wpl_op (i := 1) rfl (o_store (cells := (u32Vals hh2)) hF884 rfl rfl rfl rfl (hF884.get rfl) (hF884.get rfl) b806 ((by kernel_rfl : (Tryd.prog.info? 48).map (·.size) = some 8).trans (congrArg some (u32Vals_len hhl).symm)) ((u32Vals_len (show List.length (List.replicate 8 0) = _ from List.length_replicate)).trans (u32Vals_len hhl).symm) (u32Vals_one _) ?_)
            intro w885 b886 hg887; have z888 := hg887.size
            refine wpList_nil ?_
            refine hK882 _ _ ?_
            clear hK882
            refine wp_ret ?_
            refine retC hF884 rfl rfl b886 Tryd.underlying48 rfl ((by kernel_rfl : (Tryd.prog.info? 48).map (·.size) = some 8).trans (congrArg some (u32Vals_len hhl).symm)) ?_
            have hk8 : k5 = 8 := by omega
            subst hk8
            exact ⟨by rw [absorb_eq hv10 hp804], (((Ext.refl w).trans hx802).grownN hg887 (by omega))⟩
      · skip
        refine wp_cond_false (c_false hF278 rfl hc279) ?_
        refine wp_skip ?_
        refine hK275 _ _ ?_
        clear hK275
        refine wp_seq_k (fun K889 hK889 => ?_)
        refine wp_region_lit ?_
        refine wpl_op (i := 0) rfl (o_call hF278 rfl rfl rfl rfl (rn_call (args0 ) rfl (by kernel_rfl)) (rperm_any _) ?_)
        rintro _ w890 ⟨rfl, hx891⟩
        refine ⟨_, rfl, ?_⟩; intro a892 hF893; clear hF278; have z894 := hx891.size
        refine wpl_op (i := 1) rfl (o_new (fun g => (.pointer (some ⟨g, 0, none⟩))) (intVals (List.replicate 160 0)) 70 hF893 rfl rfl rfl rfl (by kernel_rfl) ?_)
        intro g895 w896 a901 hF902 z899 z900 b897 hx898; clear hF893
        refine wpl_op (i := 2) rfl (o_store (cells := (intVals permI)) hF902 rfl rfl rfl rfl (hF902.get rfl) (hF902.get rfl) b897 ((by kernel_rfl : (Tryd.prog.info? 70).map (·.size) = some 160).trans (congrArg some (intVals_len permI_len).symm)) ((intVals_len (show List.length (List.replicate 160 0) = _ from List.length_replicate)).trans (intVals_len permI_len).symm) (intVals_one _) ?_)
        intro w903 b904 hg905; have z906 := hg905.size
        refine wpList_nil ?_
        refine hK889 _ _ ?_
        clear hK889
        refine wp_seq_k (fun K907 hK907 => ?_)
        refine wp_seq_k (fun K908 hK908 => ?_)
        refine wp_region_lit ?_
        refine wpl_op (i := 0) rfl (o_val (v := (.int .i64 0)) hF902 rfl rfl rfl rfl (rn_assign rfl) ?_)
        intro a909 hF910; clear hF902
        refine wpList_nil ?_
        refine hK908 _ _ ?_
        clear hK908
        refine wp_block ?_
        have hv0 : v0 = h ++ iv := vTo_done hh (by rw [hp168, show k1 = 8 by omega])
        have b914 : Blk w903 g125 62 (u32Vals ((v0.set 12 ((v0.getD 12 0) ^^^ n.toUInt32)).set 13 (((v0.set 12 ((v0.getD 12 0) ^^^ n.toUInt32)).getD 13 0) ^^^ ((n >>> UInt64.ofNat 32).toUInt32)))) := (((b271.ext hx891).ext hx898).grownN hg905 (by omega))
        obtain ⟨v911, e912⟩ : ∃ z, z = (v0.set 12 ((v0.getD 12 0) ^^^ n.toUInt32)).set 13 (((v0.set 12 ((v0.getD 12 0) ^^^ n.toUInt32)).getD 13 0) ^^^ ((n >>> UInt64.ofNat 32).toUInt32)) := ⟨_, rfl⟩
        have hl913 : v911.length = 16 := (congrArg List.length e912).trans (show List.length ((v0.set 12 ((v0.getD 12 0) ^^^ n.toUInt32)).set 13 (((v0.set 12 ((v0.getD 12 0) ^^^ n.toUInt32)).getD 13 0) ^^^ ((n >>> UInt64.ofNat 32).toUInt32))) = _ from List.length_set.trans (show List.length (v0.set 12 ((v0.getD 12 0) ^^^ n.toUInt32)) = _ from List.length_set.trans hvl0))
        rw [← e912] at b914
        have hv1 : v911 = begin_ h n last := by rw [e912, hv0, hc279]; exact begin_false
        have b915 : Blk w903 g2 48 (u32Vals h) := (((((b169.grownN hg252 (by omega)).grownN hg272 (by omega)).ext hx891).ext hx898).grownN hg905 (by omega))
        have b916 : Blk w903 g10 48 (u32Vals (List.replicate 8 0)) := (((((b170.grownN hg252 (by omega)).grownN hg272 (by omega)).ext hx891).ext hx898).grownN hg905 (by omega))
        have b917 : Blk w903 g21 62 (u32Vals m) := (((((b171.grownN hg252 (by omega)).grownN hg272 (by omega)).ext hx891).ext hx898).grownN hg905 (by omega))
        have b918 : Blk w903 g143 48 (u32Vals iv) := (((((b173.grownN hg252 (by omega)).grownN hg272 (by omega)).ext hx891).ext hx898).grownN hg905 (by omega))
        refine wp_loop (fun a' W => ∃ (r : Nat) (v : List UInt32), Sl 182 [(0, (.agg (u32Vals h).toArray)), (1, (.slice A 64 c)), (2, (.int .u64 (n.toNat : Nat))), (3, (.bool last)), (4, (.pointer (some ⟨g2, 0, none⟩))), (8, (.pointer (some ⟨g10, 0, none⟩))), (9, (.pointer (some ⟨g21, 0, none⟩))), (10, (.int .i64 (k : Nat))), (22, (.bool (decide (((k : Nat) : Int) < (64 : Int))))), (11, (.pointer (some ⟨g125, 0, none⟩))), (12, (.pointer (some ⟨g143, 0, none⟩))), (13, (.int .i64 (k1 : Nat))), (45, (.bool (decide (((k1 : Nat) : Int) < (8 : Int))))), (72, (.bool last)), (14, (.pointer (some ⟨g895, 0, none⟩))), (15, (.int .i64 (r : Nat)))] a' ∧ r ≤ 10 ∧ v = roundTo m v911 r ∧ Ext w W ∧ Blk W g2 48 (u32Vals h) ∧ Blk W g10 48 (u32Vals (List.replicate 8 0)) ∧ Blk W g21 62 (u32Vals m) ∧ Blk W g125 62 (u32Vals v) ∧ Blk W g143 48 (u32Vals iv) ∧ Blk W g895 70 (intVals permI) ∧ w903.heap.size ≤ W.heap.size) (fun a' _ => 10 - (intOf (a'.eval (.tmp 15))).toNat) ⟨0, v911, ((((((((((((((((hF910.nil.cons (q_get hF910 (t := 15) rfl (by first | rfl | (congr 1; omega) | (congr 1; done)))).cons (q_get hF910 (t := 14) rfl rfl)).cons (q_get hF910 (t := 72) rfl rfl)).cons (q_get hF910 (t := 45) rfl rfl)).cons (q_get hF910 (t := 13) rfl rfl)).cons (q_get hF910 (t := 12) rfl rfl)).cons (q_get hF910 (t := 11) rfl rfl)).cons (q_get hF910 (t := 22) rfl rfl)).cons (q_get hF910 (t := 10) rfl rfl)).cons (q_get hF910 (t := 9) rfl rfl)).cons (q_get hF910 (t := 8) rfl rfl)).cons (q_get hF910 (t := 4) rfl rfl)).cons (q_get hF910 (t := 3) rfl rfl)).cons (q_get hF910 (t := 2) rfl rfl)).cons (q_get hF910 (t := 1) rfl rfl)).cons (q_get hF910 (t := 0) rfl rfl)), (by omega), rfl, (((((((Ext.refl w).trans hx166).grownN hg252 (by omega)).grownN hg272 (by omega)).trans hx891).trans hx898).grownN hg905 (by omega)), b915, b916, b917, b914, b918, b904, (Nat.le_refl _)⟩ ?_
        clear hF910
        rintro a919 w920 ⟨r, v, hF921, hp923, hp924, hx922, b925, b926, b927, b928, b929, b930, hf931⟩
        have hL932 := hF921
        have z933 := hx922.size
        have z934 := b925.lt
        have z935 := b926.lt
        have z936 := b927.lt
        have z937 := b928.lt
        have z938 := b929.lt
        have z939 := b930.lt
        have hvl : v.length = 16 := by rw [hp924]; exact roundTo_len hl913
        refine wp_seq_k (fun K940 hK940 => ?_)
        refine wp_seq_k (fun K941 hK941 => ?_)
        refine wp_region_lit ?_
        refine wpl_op (i := 0) rfl (o_val (v := (.int .i64 (r : Nat))) hF921 rfl rfl rfl rfl (rn_move (hF921.get rfl)) ?_)
        intro a942 hF943; clear hF921
        refine wpl_op (i := 1) rfl (o_val (v := (.bool (decide (((r : Nat) : Int) < (10 : Int))))) hF943 rfl rfl rfl rfl (rn_lss (hF943.get rfl) rfl) ?_)
        intro a944 hF945; clear hF943
        refine wpList_nil ?_
        refine hK941 _ _ ?_
        clear hK941
        by_cases hc946 : ((r : Nat) : Int) < (10 : Int)
        · skip
          refine wp_cond_true (c_true hF945 rfl (decide_eq_true hc946)) ?_
          refine wp_skip ?_
          refine hK940 _ _ ?_
          clear hK940
          refine wp_seq_k (fun K947 hK947 => ?_)
          refine wp_block ?_
          refine wp_seq_k (fun K948 hK948 => ?_)
          refine wp_region_lit ?_
          refine wpl_op (i := 0) rfl (o_val (v := (.int .i64 0)) hF945 rfl rfl rfl rfl (rn_assign rfl) ?_)
          intro a949 hF950; clear hF945
          refine wpList_nil ?_
          refine hK948 _ _ ?_
          clear hK948
          refine wp_block ?_
          refine wp_loop (fun a' W => ∃ (i2 : Nat) (v2 : List UInt32), Sl 182 [(0, (.agg (u32Vals h).toArray)), (1, (.slice A 64 c)), (2, (.int .u64 (n.toNat : Nat))), (3, (.bool last)), (4, (.pointer (some ⟨g2, 0, none⟩))), (8, (.pointer (some ⟨g10, 0, none⟩))), (9, (.pointer (some ⟨g21, 0, none⟩))), (10, (.int .i64 (k : Nat))), (22, (.bool (decide (((k : Nat) : Int) < (64 : Int))))), (11, (.pointer (some ⟨g125, 0, none⟩))), (12, (.pointer (some ⟨g143, 0, none⟩))), (13, (.int .i64 (k1 : Nat))), (45, (.bool (decide (((k1 : Nat) : Int) < (8 : Int))))), (72, (.bool last)), (14, (.pointer (some ⟨g895, 0, none⟩))), (15, (.int .i64 (r : Nat))), (79, (.bool (decide (((r : Nat) : Int) < (10 : Int))))), (16, (.int .i64 (i2 : Nat)))] a' ∧ i2 ≤ 8 ∧ v2 = mixTo m (permRow r) v i2 ∧ Ext w W ∧ Blk W g2 48 (u32Vals h) ∧ Blk W g10 48 (u32Vals (List.replicate 8 0)) ∧ Blk W g21 62 (u32Vals m) ∧ Blk W g125 62 (u32Vals v2) ∧ Blk W g143 48 (u32Vals iv) ∧ Blk W g895 70 (intVals permI) ∧ w920.heap.size ≤ W.heap.size) (fun a' _ => 8 - (intOf (a'.eval (.tmp 16))).toNat) ⟨0, v, ((((((((((((((((((hF950.nil.cons (q_get hF950 (t := 16) rfl (by first | rfl | (congr 1; omega) | (congr 1; done)))).cons (q_get hF950 (t := 79) rfl rfl)).cons (q_get hF950 (t := 15) rfl rfl)).cons (q_get hF950 (t := 14) rfl rfl)).cons (q_get hF950 (t := 72) rfl rfl)).cons (q_get hF950 (t := 45) rfl rfl)).cons (q_get hF950 (t := 13) rfl rfl)).cons (q_get hF950 (t := 12) rfl rfl)).cons (q_get hF950 (t := 11) rfl rfl)).cons (q_get hF950 (t := 22) rfl rfl)).cons (q_get hF950 (t := 10) rfl rfl)).cons (q_get hF950 (t := 9) rfl rfl)).cons (q_get hF950 (t := 8) rfl rfl)).cons (q_get hF950 (t := 4) rfl rfl)).cons (q_get hF950 (t := 3) rfl rfl)).cons (q_get hF950 (t := 2) rfl rfl)).cons (q_get hF950 (t := 1) rfl rfl)).cons (q_get hF950 (t := 0) rfl rfl)), (by omega), rfl, ((Ext.refl w).trans hx922), b925, b926, b927, b928, b929, b930, (Nat.le_refl _)⟩ ?_
          clear hF950
          rintro a951 w952 ⟨i2, v2, hF953, hp955, hp956, hx954, b957, b958, b959, b960, b961, b962, hf963⟩
          have hL964 := hF953
          have z965 := hx954.size
          have z966 := b957.lt
          have z967 := b958.lt
          have z968 := b959.lt
          have z969 := b960.lt
          have z970 := b961.lt
          have z971 := b962.lt
          have hvl2 : v2.length = 16 := by rw [hp956]; exact mixTo_len hvl
          refine wp_seq_k (fun K972 hK972 => ?_)
          refine wp_seq_k (fun K973 hK973 => ?_)
          refine wp_region_lit ?_
          refine wpl_op (i := 0) rfl (o_val (v := (.int .i64 (i2 : Nat))) hF953 rfl rfl rfl rfl (rn_move (hF953.get rfl)) ?_)
          intro a974 hF975; clear hF953
          refine wpl_op (i := 1) rfl (o_val (v := (.bool (decide (((i2 : Nat) : Int) < (8 : Int))))) hF975 rfl rfl rfl rfl (rn_lss (hF975.get rfl) rfl) ?_)
          intro a976 hF977; clear hF975
          refine wpList_nil ?_
          refine hK973 _ _ ?_
          clear hK973
          by_cases hc978 : ((i2 : Nat) : Int) < (8 : Int)
          · skip
            refine wp_cond_true (c_true hF977 rfl (decide_eq_true hc978)) ?_
            refine wp_skip ?_
            refine hK972 _ _ ?_
            clear hK972
            refine wp_seq_k (fun K979 hK979 => ?_)
            refine wp_block ?_
            refine wp_seq_k (fun K980 hK980 => ?_)
            refine wp_region_lit ?_
            refine wpl_op (i := 0) rfl (o_val (v := (.int .i64 (i2 : Nat))) hF977 rfl rfl rfl rfl (rn_move (hF977.get rfl)) ?_)
            intro a981 hF982; clear hF977
            refine wpl_op (i := 1) rfl (o_val (v := (.int .i64 (i2 % 4 : Nat))) hF982 rfl rfl rfl rfl (rn_remN (a := i2) (b := 4) (hF982.get rfl) rfl (by omega)) ?_)
            intro a983 hF984; clear hF982
            refine wpl_op (i := 2) rfl (o_val (v := (.int .i64 (i2 % 4 : Nat))) hF984 rfl rfl rfl rfl (rn_assign (hF984.get rfl)) ?_)
            intro a985 hF986; clear hF984
            refine wpList_nil ?_
            refine hK980 _ _ ?_
            clear hK980
            refine wp_seq_k (fun K987 hK987 => ?_)
            refine wp_region_lit ?_
            refine wpl_op (i := 0) rfl (o_val (v := (.int .i64 (i2 % 4 : Nat))) hF986 rfl rfl rfl rfl (rn_move (hF986.get rfl)) ?_)
            intro a988 hF989; clear hF986
            refine wpl_op (i := 1) rfl (o_val (v := (.int .i64 (i2 % 4 : Nat))) hF989 rfl rfl rfl rfl (rn_move (hF989.get rfl)) ?_)
            intro a990 hF991; clear hF989
            refine wpl_op (i := 2) rfl (o_val (v := (.int .i64 (4 + (i2 % 4) : Nat))) hF991 rfl rfl rfl rfl (rn_addN (a := 4) (b := i2 % 4) rfl (hF991.get rfl) (by omega)) ?_)
            intro a992 hF993; clear hF991
            refine wpl_op (i := 3) rfl (o_val (v := (.int .i64 (i2 % 4 : Nat))) hF993 rfl rfl rfl rfl (rn_move (hF993.get rfl)) ?_)
            intro a994 hF995; clear hF993
            refine wpl_op (i := 4) rfl (o_val (v := (.int .i64 (8 + (i2 % 4) : Nat))) hF995 rfl rfl rfl rfl (rn_addN (a := 8) (b := i2 % 4) rfl (hF995.get rfl) (by omega)) ?_)
            intro a996 hF997; clear hF995
            refine wpl_op (i := 5) rfl (o_val (v := (.int .i64 (i2 % 4 : Nat))) hF997 rfl rfl rfl rfl (rn_move (hF997.get rfl)) ?_)
            intro a998 hF999; clear hF997
            refine wpl_op (i := 6) rfl (o_val (v := (.int .i64 (12 + (i2 % 4) : Nat))) hF999 rfl rfl rfl rfl (rn_addN (a := 12) (b := i2 % 4) rfl (hF999.get rfl) (by omega)) ?_)
            intro a1000 hF1001; clear hF999
            refine wpl_op (i := 7) rfl (o_val (v := (.agg (intVals ([((i2 % 4 : Nat) : Int), ((4 + (i2 % 4) : Nat) : Int), ((8 + (i2 % 4) : Nat) : Int), ((12 + (i2 % 4) : Nat) : Int)])).toArray)) hF1001 rfl rfl rfl rfl (rn_build (parts4 (hF1001.get rfl) (hF1001.get rfl) (hF1001.get rfl) (hF1001.get rfl)) (by kernel_rfl)) ?_)
            intro a1002 hF1003; clear hF1001
            refine wpl_op (i := 8) rfl (o_new (fun g => (.pointer (some ⟨g, 0, none⟩))) (intVals (List.replicate 4 0)) 72 hF1003 rfl rfl rfl rfl (by kernel_rfl) ?_)
            intro g1004 w1005 a1010 hF1011 z1008 z1009 b1006 hx1007; clear hF1003
            refine wpl_op (i := 9) rfl (o_store (cells := (intVals ([((i2 % 4 : Nat) : Int), ((4 + (i2 % 4) : Nat) : Int), ((8 + (i2 % 4) : Nat) : Int), ((12 + (i2 % 4) : Nat) : Int)]))) hF1011 rfl rfl rfl rfl (hF1011.get rfl) (hF1011.get rfl) b1006 ((by kernel_rfl : (Tryd.prog.info? 72).map (·.size) = some 4).trans (congrArg some (intVals_len (show List.length [((i2 % 4 : Nat) : Int), ((4 + (i2 % 4) : Nat) : Int), ((8 + (i2 % 4) : Nat) : Int), ((12 + (i2 % 4) : Nat) : Int)] = 4 from rfl)).symm)) ((intVals_len (show List.length (List.replicate 4 0) = _ from List.length_replicate)).trans (intVals_len (show List.length [((i2 % 4 : Nat) : Int), ((4 + (i2 % 4) : Nat) : Int), ((8 + (i2 % 4) : Nat) : Int), ((12 + (i2 % 4) : Nat) : Int)] = 4 from rfl)).symm) (intVals_one _) ?_)
            intro w1012 b1013 hg1014; have z1015 := hg1014.size
            refine wpList_nil ?_
            refine hK987 _ _ ?_
            clear hK987
            have hF1016 := (((((((((((((((((((((hF1011.nil.cons (hF1011.get (t := 18) (v := (.pointer (some ⟨g1004, 0, none⟩))) rfl)).cons (hF1011.get (t := 17) (v := (.int .i64 (i2 % 4 : Nat))) rfl)).cons (hF1011.get (t := 83) (v := (.bool (decide (((i2 : Nat) : Int) < (8 : Int))))) rfl)).cons (hF1011.get (t := 16) (v := (.int .i64 (i2 : Nat))) rfl)).cons (hF1011.get (t := 79) (v := (.bool (decide (((r : Nat) : Int) < (10 : Int))))) rfl)).cons (hF1011.get (t := 15) (v := (.int .i64 (r : Nat))) rfl)).cons (hF1011.get (t := 14) (v := (.pointer (some ⟨g895, 0, none⟩))) rfl)).cons (hF1011.get (t := 72) (v := (.bool last)) rfl)).cons (hF1011.get (t := 45) (v := (.bool (decide (((k1 : Nat) : Int) < (8 : Int))))) rfl)).cons (hF1011.get (t := 13) (v := (.int .i64 (k1 : Nat))) rfl)).cons (hF1011.get (t := 12) (v := (.pointer (some ⟨g143, 0, none⟩))) rfl)).cons (hF1011.get (t := 11) (v := (.pointer (some ⟨g125, 0, none⟩))) rfl)).cons (hF1011.get (t := 22) (v := (.bool (decide (((k : Nat) : Int) < (64 : Int))))) rfl)).cons (hF1011.get (t := 10) (v := (.int .i64 (k : Nat))) rfl)).cons (hF1011.get (t := 9) (v := (.pointer (some ⟨g21, 0, none⟩))) rfl)).cons (hF1011.get (t := 8) (v := (.pointer (some ⟨g10, 0, none⟩))) rfl)).cons (hF1011.get (t := 4) (v := (.pointer (some ⟨g2, 0, none⟩))) rfl)).cons (hF1011.get (t := 3) (v := (.bool last)) rfl)).cons (hF1011.get (t := 2) (v := (.int .u64 (n.toNat : Nat))) rfl)).cons (hF1011.get (t := 1) (v := (.slice A 64 c)) rfl)).cons (hF1011.get (t := 0) (v := (.agg (u32Vals h).toArray)) rfl))
            clear hF1011
            refine wp_seq_k (fun K1017 hK1017 => ?_)
            refine wp_seq_k (fun K1018 hK1018 => ?_)
            refine wp_region_lit ?_
            refine wpl_op (i := 0) rfl (o_val (v := (.int .i64 (i2 : Nat))) hF1016 rfl rfl rfl rfl (rn_move (hF1016.get rfl)) ?_)
            intro a1019 hF1020; clear hF1016
            refine wpl_op (i := 1) rfl (o_val (v := (.bool (decide ((4 : Int) ≤ ((i2 : Nat) : Int))))) hF1020 rfl rfl rfl rfl (rn_geq (hF1020.get rfl) rfl) ?_)
            intro a1021 hF1022; clear hF1020
            refine wpList_nil ?_
            refine hK1018 _ _ ?_
            clear hK1018
            by_cases hc1023 : (4 : Int) ≤ ((i2 : Nat) : Int)
            · skip
              refine wp_cond_true (c_true hF1022 rfl (decide_eq_true hc1023)) ?_
              refine wp_region_lit ?_
              refine wpl_op (i := 0) rfl (o_val (v := (.int .i64 (i2 % 4 : Nat))) hF1022 rfl rfl rfl rfl (rn_move (hF1022.get rfl)) ?_)
              intro a1024 hF1025; clear hF1022
              refine wpl_op (i := 1) rfl (o_val (v := (.int .i64 (i2 % 4 : Nat))) hF1025 rfl rfl rfl rfl (rn_move (hF1025.get rfl)) ?_)
              intro a1026 hF1027; clear hF1025
              refine wpl_op (i := 2) rfl (o_val (v := (.int .i64 ((i2 % 4) + 1 : Nat))) hF1027 rfl rfl rfl rfl (rn_addN (a := i2 % 4) (b := 1) (hF1027.get rfl) rfl (by omega)) ?_)
              intro a1028 hF1029; clear hF1027
              refine wpl_op (i := 3) rfl (o_val (v := (.int .i64 (((i2 % 4) + 1) % 4 : Nat))) hF1029 rfl rfl rfl rfl (rn_remN (a := (i2 % 4) + 1) (b := 4) (hF1029.get rfl) rfl (by omega)) ?_)
              intro a1030 hF1031; clear hF1029
              refine wpl_op (i := 4) rfl (o_val (v := (.int .i64 (4 + (((i2 % 4) + 1) % 4) : Nat))) hF1031 rfl rfl rfl rfl (rn_addN (a := 4) (b := ((i2 % 4) + 1) % 4) rfl (hF1031.get rfl) (by omega)) ?_)
              intro a1032 hF1033; clear hF1031
              refine wpl_op (i := 5) rfl (o_val (v := (.int .i64 (i2 % 4 : Nat))) hF1033 rfl rfl rfl rfl (rn_move (hF1033.get rfl)) ?_)
              intro a1034 hF1035; clear hF1033
              refine wpl_op (i := 6) rfl (o_val (v := (.int .i64 ((i2 % 4) + 2 : Nat))) hF1035 rfl rfl rfl rfl (rn_addN (a := i2 % 4) (b := 2) (hF1035.get rfl) rfl (by omega)) ?_)
              intro a1036 hF1037; clear hF1035
              refine wpl_op (i := 7) rfl (o_val (v := (.int .i64 (((i2 % 4) + 2) % 4 : Nat))) hF1037 rfl rfl rfl rfl (rn_remN (a := (i2 % 4) + 2) (b := 4) (hF1037.get rfl) rfl (by omega)) ?_)
              intro a1038 hF1039; clear hF1037
              refine wpl_op (i := 8) rfl (o_val (v := (.int .i64 (8 + (((i2 % 4) + 2) % 4) : Nat))) hF1039 rfl rfl rfl rfl (rn_addN (a := 8) (b := ((i2 % 4) + 2) % 4) rfl (hF1039.get rfl) (by omega)) ?_)
              intro a1040 hF1041; clear hF1039
              refine wpl_op (i := 9) rfl (o_val (v := (.int .i64 (i2 % 4 : Nat))) hF1041 rfl rfl rfl rfl (rn_move (hF1041.get rfl)) ?_)
              intro a1042 hF1043; clear hF1041
              refine wpl_op (i := 10) rfl (o_val (v := (.int .i64 ((i2 % 4) + 3 : Nat))) hF1043 rfl rfl rfl rfl (rn_addN (a := i2 % 4) (b := 3) (hF1043.get rfl) rfl (by omega)) ?_)
              intro a1044 hF1045; clear hF1043
              refine wpl_op (i := 11) rfl (o_val (v := (.int .i64 (((i2 % 4) + 3) % 4 : Nat))) hF1045 rfl rfl rfl rfl (rn_remN (a := (i2 % 4) + 3) (b := 4) (hF1045.get rfl) rfl (by omega)) ?_)
              intro a1046 hF1047; clear hF1045
              refine wpl_op (i := 12) rfl (o_val (v := (.int .i64 (12 + (((i2 % 4) + 3) % 4) : Nat))) hF1047 rfl rfl rfl rfl (rn_addN (a := 12) (b := ((i2 % 4) + 3) % 4) rfl (hF1047.get rfl) (by omega)) ?_)
              intro a1048 hF1049; clear hF1047
              refine wpl_op (i := 13) rfl (o_val (v := (.agg (intVals ([((i2 % 4 : Nat) : Int), ((4 + (((i2 % 4) + 1) % 4) : Nat) : Int), ((8 + (((i2 % 4) + 2) % 4) : Nat) : Int), ((12 + (((i2 % 4) + 3) % 4) : Nat) : Int)])).toArray)) hF1049 rfl rfl rfl rfl (rn_build (parts4 (hF1049.get rfl) (hF1049.get rfl) (hF1049.get rfl) (hF1049.get rfl)) (by kernel_rfl)) ?_)
              intro a1050 hF1051; clear hF1049
              refine wpl_op (i := 14) rfl (o_store (cells := (intVals ([((i2 % 4 : Nat) : Int), ((4 + (((i2 % 4) + 1) % 4) : Nat) : Int), ((8 + (((i2 % 4) + 2) % 4) : Nat) : Int), ((12 + (((i2 % 4) + 3) % 4) : Nat) : Int)]))) hF1051 rfl rfl rfl rfl (hF1051.get rfl) (hF1051.get rfl) b1013 ((by kernel_rfl : (Tryd.prog.info? 72).map (·.size) = some 4).trans (congrArg some (intVals_len (show List.length [((i2 % 4 : Nat) : Int), ((4 + (((i2 % 4) + 1) % 4) : Nat) : Int), ((8 + (((i2 % 4) + 2) % 4) : Nat) : Int), ((12 + (((i2 % 4) + 3) % 4) : Nat) : Int)] = 4 from rfl)).symm)) ((intVals_len (show List.length [((i2 % 4 : Nat) : Int), ((4 + (i2 % 4) : Nat) : Int), ((8 + (i2 % 4) : Nat) : Int), ((12 + (i2 % 4) : Nat) : Int)] = 4 from rfl)).trans (intVals_len (show List.length [((i2 % 4 : Nat) : Int), ((4 + (((i2 % 4) + 1) % 4) : Nat) : Int), ((8 + (((i2 % 4) + 2) % 4) : Nat) : Int), ((12 + (((i2 % 4) + 3) % 4) : Nat) : Int)] = 4 from rfl)).symm) (intVals_one _) ?_)
              intro w1052 b1053 hg1054; have z1055 := hg1054.size
              refine wpList_nil ?_
              refine hK1017 _ _ ?_
              clear hK1017
              have hF1056 := ((((((((((((((((((((((hF1051.nil.cons (hF1051.get (t := 97) (v := (.bool (decide ((4 : Int) ≤ ((i2 : Nat) : Int))))) rfl)).cons (hF1051.get (t := 18) (v := (.pointer (some ⟨g1004, 0, none⟩))) rfl)).cons (hF1051.get (t := 17) (v := (.int .i64 (i2 % 4 : Nat))) rfl)).cons (hF1051.get (t := 83) (v := (.bool (decide (((i2 : Nat) : Int) < (8 : Int))))) rfl)).cons (hF1051.get (t := 16) (v := (.int .i64 (i2 : Nat))) rfl)).cons (hF1051.get (t := 79) (v := (.bool (decide (((r : Nat) : Int) < (10 : Int))))) rfl)).cons (hF1051.get (t := 15) (v := (.int .i64 (r : Nat))) rfl)).cons (hF1051.get (t := 14) (v := (.pointer (some ⟨g895, 0, none⟩))) rfl)).cons (hF1051.get (t := 72) (v := (.bool last)) rfl)).cons (hF1051.get (t := 45) (v := (.bool (decide (((k1 : Nat) : Int) < (8 : Int))))) rfl)).cons (hF1051.get (t := 13) (v := (.int .i64 (k1 : Nat))) rfl)).cons (hF1051.get (t := 12) (v := (.pointer (some ⟨g143, 0, none⟩))) rfl)).cons (hF1051.get (t := 11) (v := (.pointer (some ⟨g125, 0, none⟩))) rfl)).cons (hF1051.get (t := 22) (v := (.bool (decide (((k : Nat) : Int) < (64 : Int))))) rfl)).cons (hF1051.get (t := 10) (v := (.int .i64 (k : Nat))) rfl)).cons (hF1051.get (t := 9) (v := (.pointer (some ⟨g21, 0, none⟩))) rfl)).cons (hF1051.get (t := 8) (v := (.pointer (some ⟨g10, 0, none⟩))) rfl)).cons (hF1051.get (t := 4) (v := (.pointer (some ⟨g2, 0, none⟩))) rfl)).cons (hF1051.get (t := 3) (v := (.bool last)) rfl)).cons (hF1051.get (t := 2) (v := (.int .u64 (n.toNat : Nat))) rfl)).cons (hF1051.get (t := 1) (v := (.slice A 64 c)) rfl)).cons (hF1051.get (t := 0) (v := (.agg (u32Vals h).toArray)) rfl))
              clear hF1051
              have z1057 := permRow_lt (r := r) (by omega) (j := 2 * i2) (by omega); have z1058 := permRow_lt (r := r) (by omega) (j := 2 * i2 + 1) (by omega)
              have hx1060 : ∃ W, w1052.drew = W ∧ Ext w1052 W := ⟨_, rfl, (Ext.refl _).drew⟩
              obtain ⟨w1059, e1061, hx1060⟩ := hx1060
              have z1062 := hx1060.size
              refine anyg_start (fun W => Ext w1059 W ∧ Blk W g1004 72 (intVals ([((i2 % 4 : Nat) : Int), ((4 + (((i2 % 4) + 1) % 4) : Nat) : Int), ((8 + (((i2 % 4) + 2) % 4) : Nat) : Int), ((12 + (((i2 % 4) + 3) % 4) : Nat) : Int)])) ∧ Blk W g125 62 (u32Vals v2) ∧ Blk W g895 70 (intVals permI) ∧ Blk W g21 62 (u32Vals m)) (fun i => i == 48 || i == 50 || i == 52 || i == 54) (fun W => Blk W g1004 72 (intVals ([((i2 % 4 : Nat) : Int), ((4 + (((i2 % 4) + 1) % 4) : Nat) : Int), ((8 + (((i2 % 4) + 2) % 4) : Nat) : Int), ((12 + (((i2 % 4) + 3) % 4) : Nat) : Int)])) ∧ Blk W g895 70 (intVals permI) ∧ Blk W g21 62 (u32Vals m)) 55 #[false, false, false, false, false, false, false, false, false, false, false, false, false, false, false, false, false, false, false, false, false, false, false, false, false, false, false, false, false, false, false, false, false, false, false, false, false, false, false, false, false, false, false, false, false, false, false, false, false, false, false, false, false, false, false] rfl rfl rfl ?_
              rw [e1061]; clear e1061
              refine anyg_pure (i := 0) (v := (.pointer (some ⟨g1004, 0 + 0, none⟩))) hF1056 (by decide +kernel) (by decide +kernel) rfl rfl rfl rfl (fun _ _ _ _ h => h) rfl (fun W => (rn_indexArr Tryd.underlying72 (by kernel_rfl : (Tryd.prog.info? 3).map (·.size) = some 1) (hF1056.get rfl) rfl (by omega : (0 : Int) ≤ 0) (by omega : (0 : Int) < ((4 : Nat) : Int)))) ?_
              intro a1063 hF1064; clear hF1056
              have b1066 : Blk w1059 g1004 72 (intVals ([((i2 % 4 : Nat) : Int), ((4 + (((i2 % 4) + 1) % 4) : Nat) : Int), ((8 + (((i2 % 4) + 2) % 4) : Nat) : Int), ((12 + (((i2 % 4) + 3) % 4) : Nat) : Int)])) := (b1053.ext hx1060)
              have b1067 : Blk w1059 g125 62 (u32Vals v2) := ((((b960.ext hx1007).grownN hg1014 (by omega)).grownN hg1054 (by omega)).ext hx1060)
              have b1068 : Blk w1059 g895 70 (intVals permI) := ((((b962.ext hx1007).grownN hg1014 (by omega)).grownN hg1054 (by omega)).ext hx1060)
              have b1069 : Blk w1059 g21 62 (u32Vals m) := ((((b959.ext hx1007).grownN hg1014 (by omega)).grownN hg1054 (by omega)).ext hx1060)
              have hS1065 : Ext w1059 w1059 ∧ Blk w1059 g1004 72 (intVals ([((i2 % 4 : Nat) : Int), ((4 + (((i2 % 4) + 1) % 4) : Nat) : Int), ((8 + (((i2 % 4) + 2) % 4) : Nat) : Int), ((12 + (((i2 % 4) + 3) % 4) : Nat) : Int)])) ∧ Blk w1059 g125 62 (u32Vals v2) ∧ Blk w1059 g895 70 (intVals permI) ∧ Blk w1059 g21 62 (u32Vals m) := ⟨(Ext.refl w1059), b1066, b1067, b1068, b1069⟩
              refine anyg_val (i := 1) (v := (.int .i64 (i2 % 4 : Nat))) hF1064 (by decide +kernel) (by decide +kernel) rfl rfl rfl rfl (fun _ _ _ _ h => h) rfl hS1065 (fun W hW => (rn_load (isAgg_no Tryd.underlying3 rfl) (hF1064.get rfl) (blk_intVals hW.2.1 (by omega) (show 0 < 4 from by decide)))) ?_
              intro a1070 hF1071; clear hF1064
              refine anyg_pure (i := 2) (v := (.pointer (some ⟨g1004, 0 + 1, none⟩))) hF1071 (by decide +kernel) (by decide +kernel) rfl rfl rfl rfl (fun _ _ _ _ h => h) rfl (fun W => (rn_indexArr Tryd.underlying72 (by kernel_rfl : (Tryd.prog.info? 3).map (·.size) = some 1) (hF1071.get rfl) rfl (by omega : (0 : Int) ≤ 1) (by omega : (1 : Int) < ((4 : Nat) : Int)))) ?_
              intro a1072 hF1073; clear hF1071
              have hS1074 : Blk w1059 g1004 72 (intVals ([((i2 % 4 : Nat) : Int), ((4 + (((i2 % 4) + 1) % 4) : Nat) : Int), ((8 + (((i2 % 4) + 2) % 4) : Nat) : Int), ((12 + (((i2 % 4) + 3) % 4) : Nat) : Int)])) ∧ Blk w1059 g895 70 (intVals permI) ∧ Blk w1059 g21 62 (u32Vals m) := ⟨b1066, b1068, b1069⟩
              refine anyg_val2 (i := 3) (v := (.int .i64 (4 + (((i2 % 4) + 1) % 4) : Nat))) hF1073 (by decide +kernel) (by decide +kernel) rfl rfl rfl rfl (fun _ _ _ _ h => h) rfl hS1074 (fun W hW => (rn_load (isAgg_no Tryd.underlying3 rfl) (hF1073.get rfl) (blk_intVals hW.1 (by omega) (show 1 < 4 from by decide)))) ?_
              intro a1075 hF1076; clear hF1073
              refine anyg_pure (i := 4) (v := (.pointer (some ⟨g1004, 0 + 2, none⟩))) hF1076 (by decide +kernel) (by decide +kernel) rfl rfl rfl rfl (fun _ _ _ _ h => h) rfl (fun W => (rn_indexArr Tryd.underlying72 (by kernel_rfl : (Tryd.prog.info? 3).map (·.size) = some 1) (hF1076.get rfl) rfl (by omega : (0 : Int) ≤ 2) (by omega : (2 : Int) < ((4 : Nat) : Int)))) ?_
              intro a1077 hF1078; clear hF1076
              have hS1079 : Blk w1059 g1004 72 (intVals ([((i2 % 4 : Nat) : Int), ((4 + (((i2 % 4) + 1) % 4) : Nat) : Int), ((8 + (((i2 % 4) + 2) % 4) : Nat) : Int), ((12 + (((i2 % 4) + 3) % 4) : Nat) : Int)])) ∧ Blk w1059 g895 70 (intVals permI) ∧ Blk w1059 g21 62 (u32Vals m) := ⟨b1066, b1068, b1069⟩
              refine anyg_val2 (i := 5) (v := (.int .i64 (8 + (((i2 % 4) + 2) % 4) : Nat))) hF1078 (by decide +kernel) (by decide +kernel) rfl rfl rfl rfl (fun _ _ _ _ h => h) rfl hS1079 (fun W hW => (rn_load (isAgg_no Tryd.underlying3 rfl) (hF1078.get rfl) (blk_intVals hW.1 (by omega) (show 2 < 4 from by decide)))) ?_
              intro a1080 hF1081; clear hF1078
              refine anyg_pure (i := 6) (v := (.pointer (some ⟨g1004, 0 + 3, none⟩))) hF1081 (by decide +kernel) (by decide +kernel) rfl rfl rfl rfl (fun _ _ _ _ h => h) rfl (fun W => (rn_indexArr Tryd.underlying72 (by kernel_rfl : (Tryd.prog.info? 3).map (·.size) = some 1) (hF1081.get rfl) rfl (by omega : (0 : Int) ≤ 3) (by omega : (3 : Int) < ((4 : Nat) : Int)))) ?_
              intro a1082 hF1083; clear hF1081
              have hS1084 : Blk w1059 g1004 72 (intVals ([((i2 % 4 : Nat) : Int), ((4 + (((i2 % 4) + 1) % 4) : Nat) : Int), ((8 + (((i2 % 4) + 2) % 4) : Nat) : Int), ((12 + (((i2 % 4) + 3) % 4) : Nat) : Int)])) ∧ Blk w1059 g895 70 (intVals permI) ∧ Blk w1059 g21 62 (u32Vals m) := ⟨b1066, b1068, b1069⟩
              refine anyg_val2 (i := 7) (v := (.int .i64 (12 + (((i2 % 4) + 3) % 4) : Nat))) hF1083 (by decide +kernel) (by decide +kernel) rfl rfl rfl rfl (fun _ _ _ _ h => h) rfl hS1084 (fun W hW => (rn_load (isAgg_no Tryd.underlying3 rfl) (hF1083.get rfl) (blk_intVals hW.1 (by omega) (show 3 < 4 from by decide)))) ?_
              intro a1085 hF1086; clear hF1083
              refine anyg_pure (i := 8) (v := (.pointer (some ⟨g1004, 0 + 0, none⟩))) hF1086 (by decide +kernel) (by decide +kernel) rfl rfl rfl rfl (fun _ _ _ _ h => h) rfl (fun W => (rn_indexArr Tryd.underlying72 (by kernel_rfl : (Tryd.prog.info? 3).map (·.size) = some 1) (hF1086.get rfl) rfl (by omega : (0 : Int) ≤ 0) (by omega : (0 : Int) < ((4 : Nat) : Int)))) ?_
              intro a1087 hF1088; clear hF1086
              refine anyg_val (i := 9) (v := (.int .i64 (i2 % 4 : Nat))) hF1088 (by decide +kernel) (by decide +kernel) rfl rfl rfl rfl (fun _ _ _ _ h => h) rfl hS1065 (fun W hW => (rn_load (isAgg_no Tryd.underlying3 rfl) (hF1088.get rfl) (blk_intVals hW.2.1 (by omega) (show 0 < 4 from by decide)))) ?_
              intro a1089 hF1090; clear hF1088
              refine anyg_pure (i := 10) (v := (.pointer (some ⟨g125, 0 + (i2 % 4), none⟩))) hF1090 (by decide +kernel) (by decide +kernel) rfl rfl rfl rfl (fun _ _ _ _ h => h) rfl (fun W => (rn_indexArr Tryd.underlying62 (by kernel_rfl : (Tryd.prog.info? 47).map (·.size) = some 1) (hF1090.get rfl) (hF1090.get rfl) (by omega : (0 : Int) ≤ (i2 % 4 : Nat)) (by omega : ((i2 % 4 : Nat) : Int) < ((16 : Nat) : Int)))) ?_
              intro a1091 hF1092; clear hF1090
              refine anyg_val (i := 11) (v := (.int .u32 ((v2.getD (i2 % 4) 0).toNat : Nat))) hF1092 (by decide +kernel) (by decide +kernel) rfl rfl rfl rfl (fun _ _ _ _ h => h) rfl hS1065 (fun W hW => (rn_load (isAgg_no Tryd.underlying47 rfl) (hF1092.get rfl) (blk_word hW.2.2.1 (by omega) (by have := (show List.length v2 = _ from hvl2); omega)))) ?_
              intro a1093 hF1094; clear hF1092
              refine anyg_pure (i := 12) (v := (.pointer (some ⟨g1004, 0 + 1, none⟩))) hF1094 (by decide +kernel) (by decide +kernel) rfl rfl rfl rfl (fun _ _ _ _ h => h) rfl (fun W => (rn_indexArr Tryd.underlying72 (by kernel_rfl : (Tryd.prog.info? 3).map (·.size) = some 1) (hF1094.get rfl) rfl (by omega : (0 : Int) ≤ 1) (by omega : (1 : Int) < ((4 : Nat) : Int)))) ?_
              intro a1095 hF1096; clear hF1094
              refine anyg_val (i := 13) (v := (.int .i64 (4 + (((i2 % 4) + 1) % 4) : Nat))) hF1096 (by decide +kernel) (by decide +kernel) rfl rfl rfl rfl (fun _ _ _ _ h => h) rfl hS1065 (fun W hW => (rn_load (isAgg_no Tryd.underlying3 rfl) (hF1096.get rfl) (blk_intVals hW.2.1 (by omega) (show 1 < 4 from by decide)))) ?_
              intro a1097 hF1098; clear hF1096
              refine anyg_pure (i := 14) (v := (.pointer (some ⟨g125, 0 + (4 + (((i2 % 4) + 1) % 4)), none⟩))) hF1098 (by decide +kernel) (by decide +kernel) rfl rfl rfl rfl (fun _ _ _ _ h => h) rfl (fun W => (rn_indexArr Tryd.underlying62 (by kernel_rfl : (Tryd.prog.info? 47).map (·.size) = some 1) (hF1098.get rfl) (hF1098.get rfl) (by omega : (0 : Int) ≤ (4 + (((i2 % 4) + 1) % 4) : Nat)) (by omega : ((4 + (((i2 % 4) + 1) % 4) : Nat) : Int) < ((16 : Nat) : Int)))) ?_
              intro a1099 hF1100; clear hF1098
              refine anyg_val (i := 15) (v := (.int .u32 ((v2.getD (4 + (((i2 % 4) + 1) % 4)) 0).toNat : Nat))) hF1100 (by decide +kernel) (by decide +kernel) rfl rfl rfl rfl (fun _ _ _ _ h => h) rfl hS1065 (fun W hW => (rn_load (isAgg_no Tryd.underlying47 rfl) (hF1100.get rfl) (blk_word hW.2.2.1 (by omega) (by have := (show List.length v2 = _ from hvl2); omega)))) ?_
              intro a1101 hF1102; clear hF1100
              refine anyg_pure (i := 16) (v := (.pointer (some ⟨g1004, 0 + 2, none⟩))) hF1102 (by decide +kernel) (by decide +kernel) rfl rfl rfl rfl (fun _ _ _ _ h => h) rfl (fun W => (rn_indexArr Tryd.underlying72 (by kernel_rfl : (Tryd.prog.info? 3).map (·.size) = some 1) (hF1102.get rfl) rfl (by omega : (0 : Int) ≤ 2) (by omega : (2 : Int) < ((4 : Nat) : Int)))) ?_
              intro a1103 hF1104; clear hF1102
              refine anyg_val (i := 17) (v := (.int .i64 (8 + (((i2 % 4) + 2) % 4) : Nat))) hF1104 (by decide +kernel) (by decide +kernel) rfl rfl rfl rfl (fun _ _ _ _ h => h) rfl hS1065 (fun W hW => (rn_load (isAgg_no Tryd.underlying3 rfl) (hF1104.get rfl) (blk_intVals hW.2.1 (by omega) (show 2 < 4 from by decide)))) ?_
              intro a1105 hF1106; clear hF1104
              refine anyg_pure (i := 18) (v := (.pointer (some ⟨g125, 0 + (8 + (((i2 % 4) + 2) % 4)), none⟩))) hF1106 (by decide +kernel) (by decide +kernel) rfl rfl rfl rfl (fun _ _ _ _ h => h) rfl (fun W => (rn_indexArr Tryd.underlying62 (by kernel_rfl : (Tryd.prog.info? 47).map (·.size) = some 1) (hF1106.get rfl) (hF1106.get rfl) (by omega : (0 : Int) ≤ (8 + (((i2 % 4) + 2) % 4) : Nat)) (by omega : ((8 + (((i2 % 4) + 2) % 4) : Nat) : Int) < ((16 : Nat) : Int)))) ?_
              intro a1107 hF1108; clear hF1106
              refine anyg_val (i := 19) (v := (.int .u32 ((v2.getD (8 + (((i2 % 4) + 2) % 4)) 0).toNat : Nat))) hF1108 (by decide +kernel) (by decide +kernel) rfl rfl rfl rfl (fun _ _ _ _ h => h) rfl hS1065 (fun W hW => (rn_load (isAgg_no Tryd.underlying47 rfl) (hF1108.get rfl) (blk_word hW.2.2.1 (by omega) (by have := (show List.length v2 = _ from hvl2); omega)))) ?_
              intro a1109 hF1110; clear hF1108
              refine anyg_pure (i := 20) (v := (.pointer (some ⟨g1004, 0 + 3, none⟩))) hF1110 (by decide +kernel) (by decide +kernel) rfl rfl rfl rfl (fun _ _ _ _ h => h) rfl (fun W => (rn_indexArr Tryd.underlying72 (by kernel_rfl : (Tryd.prog.info? 3).map (·.size) = some 1) (hF1110.get rfl) rfl (by omega : (0 : Int) ≤ 3) (by omega : (3 : Int) < ((4 : Nat) : Int)))) ?_
              intro a1111 hF1112; clear hF1110
              refine anyg_val (i := 21) (v := (.int .i64 (12 + (((i2 % 4) + 3) % 4) : Nat))) hF1112 (by decide +kernel) (by decide +kernel) rfl rfl rfl rfl (fun _ _ _ _ h => h) rfl hS1065 (fun W hW => (rn_load (isAgg_no Tryd.underlying3 rfl) (hF1112.get rfl) (blk_intVals hW.2.1 (by omega) (show 3 < 4 from by decide)))) ?_
              intro a1113 hF1114; clear hF1112
              refine anyg_pure (i := 22) (v := (.pointer (some ⟨g125, 0 + (12 + (((i2 % 4) + 3) % 4)), none⟩))) hF1114 (by decide +kernel) (by decide +kernel) rfl rfl rfl rfl (fun _ _ _ _ h => h) rfl (fun W => (rn_indexArr Tryd.underlying62 (by kernel_rfl : (Tryd.prog.info? 47).map (·.size) = some 1) (hF1114.get rfl) (hF1114.get rfl) (by omega : (0 : Int) ≤ (12 + (((i2 % 4) + 3) % 4) : Nat)) (by omega : ((12 + (((i2 % 4) + 3) % 4) : Nat) : Int) < ((16 : Nat) : Int)))) ?_
              intro a1115 hF1116; clear hF1114
              refine anyg_val (i := 23) (v := (.int .u32 ((v2.getD (12 + (((i2 % 4) + 3) % 4)) 0).toNat : Nat))) hF1116 (by decide +kernel) (by decide +kernel) rfl rfl rfl rfl (fun _ _ _ _ h => h) rfl hS1065 (fun W hW => (rn_load (isAgg_no Tryd.underlying47 rfl) (hF1116.get rfl) (blk_word hW.2.2.1 (by omega) (by have := (show List.length v2 = _ from hvl2); omega)))) ?_
              intro a1117 hF1118; clear hF1116
              refine anyg_pure (i := 24) (v := (.int .i64 (r : Nat))) hF1118 (by decide +kernel) (by decide +kernel) rfl rfl rfl rfl (fun _ _ _ _ h => h) rfl (fun W => (rn_move (hF1118.get rfl))) ?_
              intro a1119 hF1120; clear hF1118
              refine anyg_pure (i := 25) (v := (.int .i64 (i2 : Nat))) hF1120 (by decide +kernel) (by decide +kernel) rfl rfl rfl rfl (fun _ _ _ _ h => h) rfl (fun W => (rn_move (hF1120.get rfl))) ?_
              intro a1121 hF1122; clear hF1120
              refine anyg_pure (i := 26) (v := (.int .i64 (2 * i2 : Nat))) hF1122 (by decide +kernel) (by decide +kernel) rfl rfl rfl rfl (fun _ _ _ _ h => h) rfl (fun W => (rn_mulN (a := 2) (b := i2) rfl (hF1122.get rfl) (by omega))) ?_
              intro a1123 hF1124; clear hF1122
              refine anyg_pure (i := 27) (v := (.pointer (some ⟨g895, 0 + r * 16, none⟩))) hF1124 (by decide +kernel) (by decide +kernel) rfl rfl rfl rfl (fun _ _ _ _ h => h) rfl (fun W => (rn_indexArrE Tryd.underlying70 (by kernel_rfl : (Tryd.prog.info? 69).map (·.size) = some 16) (hF1124.get rfl) (hF1124.get rfl) (by omega : (0 : Int) ≤ (r : Nat)) (by omega : ((r : Nat) : Int) < ((10 : Nat) : Int)) (by omega))) ?_
              intro a1125 hF1126; clear hF1124
              refine anyg_pure (i := 28) (v := (.pointer (some ⟨g895, 0 + r * 16 + (2 * i2), none⟩))) hF1126 (by decide +kernel) (by decide +kernel) rfl rfl rfl rfl (fun _ _ _ _ h => h) rfl (fun W => (rn_indexArr Tryd.underlying69 (by kernel_rfl : (Tryd.prog.info? 3).map (·.size) = some 1) (hF1126.get rfl) (hF1126.get rfl) (by omega : (0 : Int) ≤ (2 * i2 : Nat)) (by omega : ((2 * i2 : Nat) : Int) < ((16 : Nat) : Int)))) ?_
              intro a1127 hF1128; clear hF1126
              refine anyg_val (i := 29) (v := (.int .i64 ((permRow r).getD (2 * i2) 0 : Nat))) hF1128 (by decide +kernel) (by decide +kernel) rfl rfl rfl rfl (fun _ _ _ _ h => h) rfl hS1065 (fun W hW => (rn_load (isAgg_no Tryd.underlying3 rfl) (hF1128.get rfl) (blk_perm hW.2.2.2.1 (r := r) (j := (2 * i2)) (by omega) (by omega) (by omega)))) ?_
              intro a1129 hF1130; clear hF1128
              refine anyg_pure (i := 30) (v := (.pointer (some ⟨g21, 0 + ((permRow r).getD (2 * i2) 0), none⟩))) hF1130 (by decide +kernel) (by decide +kernel) rfl rfl rfl rfl (fun _ _ _ _ h => h) rfl (fun W => (rn_indexArr Tryd.underlying62 (by kernel_rfl : (Tryd.prog.info? 47).map (·.size) = some 1) (hF1130.get rfl) (hF1130.get rfl) (by omega : (0 : Int) ≤ ((permRow r).getD (2 * i2) 0 : Nat)) (by omega : (((permRow r).getD (2 * i2) 0 : Nat) : Int) < ((16 : Nat) : Int)))) ?_
              intro a1131 hF1132; clear hF1130
              refine anyg_val (i := 31) (v := (.int .u32 ((m.getD ((permRow r).getD (2 * i2) 0) 0).toNat : Nat))) hF1132 (by decide +kernel) (by decide +kernel) rfl rfl rfl rfl (fun _ _ _ _ h => h) rfl hS1065 (fun W hW => (rn_load (isAgg_no Tryd.underlying47 rfl) (hF1132.get rfl) (blk_word hW.2.2.2.2 (by omega) (by have := (show List.length m = _ from hm); omega)))) ?_
              intro a1133 hF1134; clear hF1132
              refine anyg_pure (i := 32) (v := (.int .i64 (r : Nat))) hF1134 (by decide +kernel) (by decide +kernel) rfl rfl rfl rfl (fun _ _ _ _ h => h) rfl (fun W => (rn_move (hF1134.get rfl))) ?_
              intro a1135 hF1136; clear hF1134
              refine anyg_pure (i := 33) (v := (.int .i64 (i2 : Nat))) hF1136 (by decide +kernel) (by decide +kernel) rfl rfl rfl rfl (fun _ _ _ _ h => h) rfl (fun W => (rn_move (hF1136.get rfl))) ?_
              intro a1137 hF1138; clear hF1136
              refine anyg_pure (i := 34) (v := (.int .i64 (2 * i2 : Nat))) hF1138 (by decide +kernel) (by decide +kernel) rfl rfl rfl rfl (fun _ _ _ _ h => h) rfl (fun W => (rn_mulN (a := 2) (b := i2) rfl (hF1138.get rfl) (by omega))) ?_
              intro a1139 hF1140; clear hF1138
              refine anyg_pure (i := 35) (v := (.int .i64 ((2 * i2) + 1 : Nat))) hF1140 (by decide +kernel) (by decide +kernel) rfl rfl rfl rfl (fun _ _ _ _ h => h) rfl (fun W => (rn_addN (a := 2 * i2) (b := 1) (hF1140.get rfl) rfl (by omega))) ?_
              intro a1141 hF1142; clear hF1140
              refine anyg_pure (i := 36) (v := (.pointer (some ⟨g895, 0 + r * 16, none⟩))) hF1142 (by decide +kernel) (by decide +kernel) rfl rfl rfl rfl (fun _ _ _ _ h => h) rfl (fun W => (rn_indexArrE Tryd.underlying70 (by kernel_rfl : (Tryd.prog.info? 69).map (·.size) = some 16) (hF1142.get rfl) (hF1142.get rfl) (by omega : (0 : Int) ≤ (r : Nat)) (by omega : ((r : Nat) : Int) < ((10 : Nat) : Int)) (by omega))) ?_
              intro a1143 hF1144; clear hF1142
              refine anyg_pure (i := 37) (v := (.pointer (some ⟨g895, 0 + r * 16 + ((2 * i2) + 1), none⟩))) hF1144 (by decide +kernel) (by decide +kernel) rfl rfl rfl rfl (fun _ _ _ _ h => h) rfl (fun W => (rn_indexArr Tryd.underlying69 (by kernel_rfl : (Tryd.prog.info? 3).map (·.size) = some 1) (hF1144.get rfl) (hF1144.get rfl) (by omega : (0 : Int) ≤ ((2 * i2) + 1 : Nat)) (by omega : (((2 * i2) + 1 : Nat) : Int) < ((16 : Nat) : Int)))) ?_
              intro a1145 hF1146; clear hF1144
              refine anyg_val (i := 38) (v := (.int .i64 ((permRow r).getD ((2 * i2) + 1) 0 : Nat))) hF1146 (by decide +kernel) (by decide +kernel) rfl rfl rfl rfl (fun _ _ _ _ h => h) rfl hS1065 (fun W hW => (rn_load (isAgg_no Tryd.underlying3 rfl) (hF1146.get rfl) (blk_perm hW.2.2.2.1 (r := r) (j := ((2 * i2) + 1)) (by omega) (by omega) (by omega)))) ?_
              intro a1147 hF1148; clear hF1146
              refine anyg_pure (i := 39) (v := (.pointer (some ⟨g21, 0 + ((permRow r).getD ((2 * i2) + 1) 0), none⟩))) hF1148 (by decide +kernel) (by decide +kernel) rfl rfl rfl rfl (fun _ _ _ _ h => h) rfl (fun W => (rn_indexArr Tryd.underlying62 (by kernel_rfl : (Tryd.prog.info? 47).map (·.size) = some 1) (hF1148.get rfl) (hF1148.get rfl) (by omega : (0 : Int) ≤ ((permRow r).getD ((2 * i2) + 1) 0 : Nat)) (by omega : (((permRow r).getD ((2 * i2) + 1) 0 : Nat) : Int) < ((16 : Nat) : Int)))) ?_
              intro a1149 hF1150; clear hF1148
              refine anyg_val (i := 40) (v := (.int .u32 ((m.getD ((permRow r).getD ((2 * i2) + 1) 0) 0).toNat : Nat))) hF1150 (by decide +kernel) (by decide +kernel) rfl rfl rfl rfl (fun _ _ _ _ h => h) rfl hS1065 (fun W hW => (rn_load (isAgg_no Tryd.underlying47 rfl) (hF1150.get rfl) (blk_word hW.2.2.2.2 (by omega) (by have := (show List.length m = _ from hm); omega)))) ?_
              intro a1151 hF1152; clear hF1150
              refine anyg_one (i := 41) (by decide +kernel) rfl ?_
              refine o_call hF1152 rfl rfl rfl rfl (rn_call (args6 (hF1152.get rfl) (hF1152.get rfl) (hF1152.get rfl) (hF1152.get rfl) (hF1152.get rfl) (hF1152.get rfl)) rfl (by kernel_rfl)) (rmix_any (v2.getD (i2 % 4) 0) (v2.getD (4 + (((i2 % 4) + 1) % 4)) 0) (v2.getD (8 + (((i2 % 4) + 2) % 4)) 0) (v2.getD (12 + (((i2 % 4) + 3) % 4)) 0) (m.getD ((permRow r).getD (2 * i2) 0) 0) (m.getD ((permRow r).getD ((2 * i2) + 1) 0) 0) _) ?_
              rintro _ w1153 ⟨rfl, hx1154⟩
              refine ⟨_, rfl, ?_⟩; intro a1155 hF1156; clear hF1152; have z1157 := hx1154.size
              have b1158 : Blk w1153 g1004 72 (intVals ([((i2 % 4 : Nat) : Int), ((4 + (((i2 % 4) + 1) % 4) : Nat) : Int), ((8 + (((i2 % 4) + 2) % 4) : Nat) : Int), ((12 + (((i2 % 4) + 3) % 4) : Nat) : Int)])) := (b1066.ext hx1154)
              have b1159 : Blk w1153 g125 62 (u32Vals v2) := (b1067.ext hx1154)
              have b1160 : Blk w1153 g895 70 (intVals permI) := (b1068.ext hx1154)
              have b1161 : Blk w1153 g21 62 (u32Vals m) := (b1069.ext hx1154)
              refine ⟨⟨fun _ _ => ⟨((Ext.refl w1059).trans hx1154), b1158, b1159, b1160, b1161⟩, fun _ => ⟨b1158, b1160, b1161⟩⟩, ?_⟩
              refine anyg_pure (i := 42) (v := (.tuple #[(.int .u32 (((mix4 (v2.getD (i2 % 4) 0) (v2.getD (4 + (((i2 % 4) + 1) % 4)) 0) (v2.getD (8 + (((i2 % 4) + 2) % 4)) 0) (v2.getD (12 + (((i2 % 4) + 3) % 4)) 0) (m.getD ((permRow r).getD (2 * i2) 0) 0) (m.getD ((permRow r).getD ((2 * i2) + 1) 0) 0)).a).toNat : Nat)), (.int .u32 (((mix4 (v2.getD (i2 % 4) 0) (v2.getD (4 + (((i2 % 4) + 1) % 4)) 0) (v2.getD (8 + (((i2 % 4) + 2) % 4)) 0) (v2.getD (12 + (((i2 % 4) + 3) % 4)) 0) (m.getD ((permRow r).getD (2 * i2) 0) 0) (m.getD ((permRow r).getD ((2 * i2) + 1) 0) 0)).b).toNat : Nat)), (.int .u32 (((mix4 (v2.getD (i2 % 4) 0) (v2.getD (4 + (((i2 % 4) + 1) % 4)) 0) (v2.getD (8 + (((i2 % 4) + 2) % 4)) 0) (v2.getD (12 + (((i2 % 4) + 3) % 4)) 0) (m.getD ((permRow r).getD (2 * i2) 0) 0) (m.getD ((permRow r).getD ((2 * i2) + 1) 0) 0)).c).toNat : Nat)), (.int .u32 (((mix4 (v2.getD (i2 % 4) 0) (v2.getD (4 + (((i2 % 4) + 1) % 4)) 0) (v2.getD (8 + (((i2 % 4) + 2) % 4)) 0) (v2.getD (12 + (((i2 % 4) + 3) % 4)) 0) (m.getD ((permRow r).getD (2 * i2) 0) 0) (m.getD ((permRow r).getD ((2 * i2) + 1) 0) 0)).d).toNat : Nat))])) hF1156 (by decide +kernel) (by decide +kernel) rfl rfl rfl rfl (fun _ _ _ _ h => h) rfl (fun W => (rn_move (hF1156.get rfl))) ?_
              intro a1162 hF1163; clear hF1156
              refine anyg_pure (i := 43) (v := (.int .u32 (((mix4 (v2.getD (i2 % 4) 0) (v2.getD (4 + (((i2 % 4) + 1) % 4)) 0) (v2.getD (8 + (((i2 % 4) + 2) % 4)) 0) (v2.getD (12 + (((i2 % 4) + 3) % 4)) 0) (m.getD ((permRow r).getD (2 * i2) 0) 0) (m.getD ((permRow r).getD ((2 * i2) + 1) 0) 0)).a).toNat : Nat))) hF1163 (by decide +kernel) (by decide +kernel) rfl rfl rfl rfl (fun _ _ _ _ h => h) rfl (fun W => (rn_extract (hF1163.get rfl) rfl)) ?_
              intro a1164 hF1165; clear hF1163
              refine anyg_pure (i := 44) (v := (.int .u32 (((mix4 (v2.getD (i2 % 4) 0) (v2.getD (4 + (((i2 % 4) + 1) % 4)) 0) (v2.getD (8 + (((i2 % 4) + 2) % 4)) 0) (v2.getD (12 + (((i2 % 4) + 3) % 4)) 0) (m.getD ((permRow r).getD (2 * i2) 0) 0) (m.getD ((permRow r).getD ((2 * i2) + 1) 0) 0)).b).toNat : Nat))) hF1165 (by decide +kernel) (by decide +kernel) rfl rfl rfl rfl (fun _ _ _ _ h => h) rfl (fun W => (rn_extract (hF1165.get rfl) rfl)) ?_
              intro a1166 hF1167; clear hF1165
              refine anyg_pure (i := 45) (v := (.int .u32 (((mix4 (v2.getD (i2 % 4) 0) (v2.getD (4 + (((i2 % 4) + 1) % 4)) 0) (v2.getD (8 + (((i2 % 4) + 2) % 4)) 0) (v2.getD (12 + (((i2 % 4) + 3) % 4)) 0) (m.getD ((permRow r).getD (2 * i2) 0) 0) (m.getD ((permRow r).getD ((2 * i2) + 1) 0) 0)).c).toNat : Nat))) hF1167 (by decide +kernel) (by decide +kernel) rfl rfl rfl rfl (fun _ _ _ _ h => h) rfl (fun W => (rn_extract (hF1167.get rfl) rfl)) ?_
              intro a1168 hF1169; clear hF1167
              refine anyg_pure (i := 46) (v := (.int .u32 (((mix4 (v2.getD (i2 % 4) 0) (v2.getD (4 + (((i2 % 4) + 1) % 4)) 0) (v2.getD (8 + (((i2 % 4) + 2) % 4)) 0) (v2.getD (12 + (((i2 % 4) + 3) % 4)) 0) (m.getD ((permRow r).getD (2 * i2) 0) 0) (m.getD ((permRow r).getD ((2 * i2) + 1) 0) 0)).d).toNat : Nat))) hF1169 (by decide +kernel) (by decide +kernel) rfl rfl rfl rfl (fun _ _ _ _ h => h) rfl (fun W => (rn_extract (hF1169.get rfl) rfl)) ?_
              intro a1170 hF1171; clear hF1169
              refine anyg_pure (i := 47) (v := (.pointer (some ⟨g125, 0 + (i2 % 4), none⟩))) hF1171 (by decide +kernel) (by decide +kernel) rfl rfl rfl rfl (fun _ _ _ _ h => h) rfl (fun W => (rn_indexArr Tryd.underlying62 (by kernel_rfl : (Tryd.prog.info? 47).map (·.size) = some 1) (hF1171.get rfl) (hF1171.get rfl) (by omega : (0 : Int) ≤ (i2 % 4 : Nat)) (by omega : ((i2 % 4 : Nat) : Int) < ((16 : Nat) : Int)))) ?_
              intro a1172 hF1173; clear hF1171
              refine anyg_one (i := 48) (by decide +kernel) rfl ?_
              refine o_store1 (new := (u32Vals (v2.set (i2 % 4) ((mix4 (v2.getD (i2 % 4) 0) (v2.getD (4 + (((i2 % 4) + 1) % 4)) 0) (v2.getD (8 + (((i2 % 4) + 2) % 4)) 0) (v2.getD (12 + (((i2 % 4) + 3) % 4)) 0) (m.getD ((permRow r).getD (2 * i2) 0) 0) (m.getD ((permRow r).getD ((2 * i2) + 1) 0) 0)).a)))) hF1173 rfl rfl rfl rfl (hF1173.get rfl) (hF1173.get rfl) b1159 (by kernel_rfl : (Tryd.prog.info? 47).map (·.size) = some 1) (by rw [u32Vals_len hvl2]; omega) rfl (u32Vals_set (by omega)) ?_
              intro w1174 b1175 hg1176; have z1177 := hg1176.size
              have b1178 : Blk w1174 g1004 72 (intVals ([((i2 % 4 : Nat) : Int), ((4 + (((i2 % 4) + 1) % 4) : Nat) : Int), ((8 + (((i2 % 4) + 2) % 4) : Nat) : Int), ((12 + (((i2 % 4) + 3) % 4) : Nat) : Int)])) := (b1158.grownN hg1176 (by omega))
              have b1179 : Blk w1174 g895 70 (intVals permI) := (b1160.grownN hg1176 (by omega))
              have b1180 : Blk w1174 g21 62 (u32Vals m) := (b1161.grownN hg1176 (by omega))
              refine ⟨⟨fun h => absurd h (by decide), fun _ => ⟨b1178, b1179, b1180⟩⟩, ?_⟩
              refine anyg_pure (i := 49) (v := (.pointer (some ⟨g125, 0 + (4 + (((i2 % 4) + 1) % 4)), none⟩))) hF1173 (by decide +kernel) (by decide +kernel) rfl rfl rfl rfl (fun _ _ _ _ h => h) rfl (fun W => (rn_indexArr Tryd.underlying62 (by kernel_rfl : (Tryd.prog.info? 47).map (·.size) = some 1) (hF1173.get rfl) (hF1173.get rfl) (by omega : (0 : Int) ≤ (4 + (((i2 % 4) + 1) % 4) : Nat)) (by omega : ((4 + (((i2 % 4) + 1) % 4) : Nat) : Int) < ((16 : Nat) : Int)))) ?_
              intro a1181 hF1182; clear hF1173
              refine anyg_one (i := 50) (by decide +kernel) rfl ?_
              refine o_store1 (new := (u32Vals ((v2.set (i2 % 4) ((mix4 (v2.getD (i2 % 4) 0) (v2.getD (4 + (((i2 % 4) + 1) % 4)) 0) (v2.getD (8 + (((i2 % 4) + 2) % 4)) 0) (v2.getD (12 + (((i2 % 4) + 3) % 4)) 0) (m.getD ((permRow r).getD (2 * i2) 0) 0) (m.getD ((permRow r).getD ((2 * i2) + 1) 0) 0)).a)).set (4 + (((i2 % 4) + 1) % 4)) ((mix4 (v2.getD (i2 % 4) 0) (v2.getD (4 + (((i2 % 4) + 1) % 4)) 0) (v2.getD (8 + (((i2 % 4) + 2) % 4)) 0) (v2.getD (12 + (((i2 % 4) + 3) % 4)) 0) (m.getD ((permRow r).getD (2 * i2) 0) 0) (m.getD ((permRow r).getD ((2 * i2) + 1) 0) 0)).b)))) hF1182 rfl rfl rfl rfl (hF1182.get rfl) (hF1182.get rfl) b1175 (by kernel_rfl : (Tryd.prog.info? 47).map (·.size) = some 1) (by rw [u32Vals_len (show List.length (v2.set (i2 % 4) ((mix4 (v2.getD (i2 % 4) 0) (v2.getD (4 + (((i2 % 4) + 1) % 4)) 0) (v2.getD (8 + (((i2 % 4) + 2) % 4)) 0) (v2.getD (12 + (((i2 % 4) + 3) % 4)) 0) (m.getD ((permRow r).getD (2 * i2) 0) 0) (m.getD ((permRow r).getD ((2 * i2) + 1) 0) 0)).a)) = _ from List.length_set.trans hvl2)]; omega) rfl (u32Vals_set (by omega)) ?_
              intro w1183 b1184 hg1185; have z1186 := hg1185.size
              have b1187 : Blk w1183 g1004 72 (intVals ([((i2 % 4 : Nat) : Int), ((4 + (((i2 % 4) + 1) % 4) : Nat) : Int), ((8 + (((i2 % 4) + 2) % 4) : Nat) : Int), ((12 + (((i2 % 4) + 3) % 4) : Nat) : Int)])) := (b1178.grownN hg1185 (by omega))
              have b1188 : Blk w1183 g895 70 (intVals permI) := (b1179.grownN hg1185 (by omega))
              have b1189 : Blk w1183 g21 62 (u32Vals m) := (b1180.grownN hg1185 (by omega))
              refine ⟨⟨fun h => absurd h (by decide), fun _ => ⟨b1187, b1188, b1189⟩⟩, ?_⟩
              refine anyg_pure (i := 51) (v := (.pointer (some ⟨g125, 0 + (8 + (((i2 % 4) + 2) % 4)), none⟩))) hF1182 (by decide +kernel) (by decide +kernel) rfl rfl rfl rfl (fun _ _ _ _ h => h) rfl (fun W => (rn_indexArr Tryd.underlying62 (by kernel_rfl : (Tryd.prog.info? 47).map (·.size) = some 1) (hF1182.get rfl) (hF1182.get rfl) (by omega : (0 : Int) ≤ (8 + (((i2 % 4) + 2) % 4) : Nat)) (by omega : ((8 + (((i2 % 4) + 2) % 4) : Nat) : Int) < ((16 : Nat) : Int)))) ?_
              intro a1190 hF1191; clear hF1182
              refine anyg_one (i := 52) (by decide +kernel) rfl ?_
              refine o_store1 (new := (u32Vals (((v2.set (i2 % 4) ((mix4 (v2.getD (i2 % 4) 0) (v2.getD (4 + (((i2 % 4) + 1) % 4)) 0) (v2.getD (8 + (((i2 % 4) + 2) % 4)) 0) (v2.getD (12 + (((i2 % 4) + 3) % 4)) 0) (m.getD ((permRow r).getD (2 * i2) 0) 0) (m.getD ((permRow r).getD ((2 * i2) + 1) 0) 0)).a)).set (4 + (((i2 % 4) + 1) % 4)) ((mix4 (v2.getD (i2 % 4) 0) (v2.getD (4 + (((i2 % 4) + 1) % 4)) 0) (v2.getD (8 + (((i2 % 4) + 2) % 4)) 0) (v2.getD (12 + (((i2 % 4) + 3) % 4)) 0) (m.getD ((permRow r).getD (2 * i2) 0) 0) (m.getD ((permRow r).getD ((2 * i2) + 1) 0) 0)).b)).set (8 + (((i2 % 4) + 2) % 4)) ((mix4 (v2.getD (i2 % 4) 0) (v2.getD (4 + (((i2 % 4) + 1) % 4)) 0) (v2.getD (8 + (((i2 % 4) + 2) % 4)) 0) (v2.getD (12 + (((i2 % 4) + 3) % 4)) 0) (m.getD ((permRow r).getD (2 * i2) 0) 0) (m.getD ((permRow r).getD ((2 * i2) + 1) 0) 0)).c)))) hF1191 rfl rfl rfl rfl (hF1191.get rfl) (hF1191.get rfl) b1184 (by kernel_rfl : (Tryd.prog.info? 47).map (·.size) = some 1) (by rw [u32Vals_len (show List.length ((v2.set (i2 % 4) ((mix4 (v2.getD (i2 % 4) 0) (v2.getD (4 + (((i2 % 4) + 1) % 4)) 0) (v2.getD (8 + (((i2 % 4) + 2) % 4)) 0) (v2.getD (12 + (((i2 % 4) + 3) % 4)) 0) (m.getD ((permRow r).getD (2 * i2) 0) 0) (m.getD ((permRow r).getD ((2 * i2) + 1) 0) 0)).a)).set (4 + (((i2 % 4) + 1) % 4)) ((mix4 (v2.getD (i2 % 4) 0) (v2.getD (4 + (((i2 % 4) + 1) % 4)) 0) (v2.getD (8 + (((i2 % 4) + 2) % 4)) 0) (v2.getD (12 + (((i2 % 4) + 3) % 4)) 0) (m.getD ((permRow r).getD (2 * i2) 0) 0) (m.getD ((permRow r).getD ((2 * i2) + 1) 0) 0)).b)) = _ from List.length_set.trans (show List.length (v2.set (i2 % 4) ((mix4 (v2.getD (i2 % 4) 0) (v2.getD (4 + (((i2 % 4) + 1) % 4)) 0) (v2.getD (8 + (((i2 % 4) + 2) % 4)) 0) (v2.getD (12 + (((i2 % 4) + 3) % 4)) 0) (m.getD ((permRow r).getD (2 * i2) 0) 0) (m.getD ((permRow r).getD ((2 * i2) + 1) 0) 0)).a)) = _ from List.length_set.trans hvl2))]; omega) rfl (u32Vals_set (by omega)) ?_
              intro w1192 b1193 hg1194; have z1195 := hg1194.size
              have b1196 : Blk w1192 g1004 72 (intVals ([((i2 % 4 : Nat) : Int), ((4 + (((i2 % 4) + 1) % 4) : Nat) : Int), ((8 + (((i2 % 4) + 2) % 4) : Nat) : Int), ((12 + (((i2 % 4) + 3) % 4) : Nat) : Int)])) := (b1187.grownN hg1194 (by omega))
              have b1197 : Blk w1192 g895 70 (intVals permI) := (b1188.grownN hg1194 (by omega))
              have b1198 : Blk w1192 g21 62 (u32Vals m) := (b1189.grownN hg1194 (by omega))
              refine ⟨⟨fun h => absurd h (by decide), fun _ => ⟨b1196, b1197, b1198⟩⟩, ?_⟩
              refine anyg_pure (i := 53) (v := (.pointer (some ⟨g125, 0 + (12 + (((i2 % 4) + 3) % 4)), none⟩))) hF1191 (by decide +kernel) (by decide +kernel) rfl rfl rfl rfl (fun _ _ _ _ h => h) rfl (fun W => (rn_indexArr Tryd.underlying62 (by kernel_rfl : (Tryd.prog.info? 47).map (·.size) = some 1) (hF1191.get rfl) (hF1191.get rfl) (by omega : (0 : Int) ≤ (12 + (((i2 % 4) + 3) % 4) : Nat)) (by omega : ((12 + (((i2 % 4) + 3) % 4) : Nat) : Int) < ((16 : Nat) : Int)))) ?_
              intro a1199 hF1200; clear hF1191
              refine anyg_one (i := 54) (by decide +kernel) rfl ?_
              refine o_store1 (new := (u32Vals ((((v2.set (i2 % 4) ((mix4 (v2.getD (i2 % 4) 0) (v2.getD (4 + (((i2 % 4) + 1) % 4)) 0) (v2.getD (8 + (((i2 % 4) + 2) % 4)) 0) (v2.getD (12 + (((i2 % 4) + 3) % 4)) 0) (m.getD ((permRow r).getD (2 * i2) 0) 0) (m.getD ((permRow r).getD ((2 * i2) + 1) 0) 0)).a)).set (4 + (((i2 % 4) + 1) % 4)) ((mix4 (v2.getD (i2 % 4) 0) (v2.getD (4 + (((i2 % 4) + 1) % 4)) 0) (v2.getD (8 + (((i2 % 4) + 2) % 4)) 0) (v2.getD (12 + (((i2 % 4) + 3) % 4)) 0) (m.getD ((permRow r).getD (2 * i2) 0) 0) (m.getD ((permRow r).getD ((2 * i2) + 1) 0) 0)).b)).set (8 + (((i2 % 4) + 2) % 4)) ((mix4 (v2.getD (i2 % 4) 0) (v2.getD (4 + (((i2 % 4) + 1) % 4)) 0) (v2.getD (8 + (((i2 % 4) + 2) % 4)) 0) (v2.getD (12 + (((i2 % 4) + 3) % 4)) 0) (m.getD ((permRow r).getD (2 * i2) 0) 0) (m.getD ((permRow r).getD ((2 * i2) + 1) 0) 0)).c)).set (12 + (((i2 % 4) + 3) % 4)) ((mix4 (v2.getD (i2 % 4) 0) (v2.getD (4 + (((i2 % 4) + 1) % 4)) 0) (v2.getD (8 + (((i2 % 4) + 2) % 4)) 0) (v2.getD (12 + (((i2 % 4) + 3) % 4)) 0) (m.getD ((permRow r).getD (2 * i2) 0) 0) (m.getD ((permRow r).getD ((2 * i2) + 1) 0) 0)).d)))) hF1200 rfl rfl rfl rfl (hF1200.get rfl) (hF1200.get rfl) b1193 (by kernel_rfl : (Tryd.prog.info? 47).map (·.size) = some 1) (by rw [u32Vals_len (show List.length (((v2.set (i2 % 4) ((mix4 (v2.getD (i2 % 4) 0) (v2.getD (4 + (((i2 % 4) + 1) % 4)) 0) (v2.getD (8 + (((i2 % 4) + 2) % 4)) 0) (v2.getD (12 + (((i2 % 4) + 3) % 4)) 0) (m.getD ((permRow r).getD (2 * i2) 0) 0) (m.getD ((permRow r).getD ((2 * i2) + 1) 0) 0)).a)).set (4 + (((i2 % 4) + 1) % 4)) ((mix4 (v2.getD (i2 % 4) 0) (v2.getD (4 + (((i2 % 4) + 1) % 4)) 0) (v2.getD (8 + (((i2 % 4) + 2) % 4)) 0) (v2.getD (12 + (((i2 % 4) + 3) % 4)) 0) (m.getD ((permRow r).getD (2 * i2) 0) 0) (m.getD ((permRow r).getD ((2 * i2) + 1) 0) 0)).b)).set (8 + (((i2 % 4) + 2) % 4)) ((mix4 (v2.getD (i2 % 4) 0) (v2.getD (4 + (((i2 % 4) + 1) % 4)) 0) (v2.getD (8 + (((i2 % 4) + 2) % 4)) 0) (v2.getD (12 + (((i2 % 4) + 3) % 4)) 0) (m.getD ((permRow r).getD (2 * i2) 0) 0) (m.getD ((permRow r).getD ((2 * i2) + 1) 0) 0)).c)) = _ from List.length_set.trans (show List.length ((v2.set (i2 % 4) ((mix4 (v2.getD (i2 % 4) 0) (v2.getD (4 + (((i2 % 4) + 1) % 4)) 0) (v2.getD (8 + (((i2 % 4) + 2) % 4)) 0) (v2.getD (12 + (((i2 % 4) + 3) % 4)) 0) (m.getD ((permRow r).getD (2 * i2) 0) 0) (m.getD ((permRow r).getD ((2 * i2) + 1) 0) 0)).a)).set (4 + (((i2 % 4) + 1) % 4)) ((mix4 (v2.getD (i2 % 4) 0) (v2.getD (4 + (((i2 % 4) + 1) % 4)) 0) (v2.getD (8 + (((i2 % 4) + 2) % 4)) 0) (v2.getD (12 + (((i2 % 4) + 3) % 4)) 0) (m.getD ((permRow r).getD (2 * i2) 0) 0) (m.getD ((permRow r).getD ((2 * i2) + 1) 0) 0)).b)) = _ from List.length_set.trans (show List.length (v2.set (i2 % 4) ((mix4 (v2.getD (i2 % 4) 0) (v2.getD (4 + (((i2 % 4) + 1) % 4)) 0) (v2.getD (8 + (((i2 % 4) + 2) % 4)) 0) (v2.getD (12 + (((i2 % 4) + 3) % 4)) 0) (m.getD ((permRow r).getD (2 * i2) 0) 0) (m.getD ((permRow r).getD ((2 * i2) + 1) 0) 0)).a)) = _ from List.length_set.trans hvl2)))]; omega) rfl (u32Vals_set (by omega)) ?_
              intro w1201 b1202 hg1203; have z1204 := hg1203.size
              have b1205 : Blk w1201 g1004 72 (intVals ([((i2 % 4 : Nat) : Int), ((4 + (((i2 % 4) + 1) % 4) : Nat) : Int), ((8 + (((i2 % 4) + 2) % 4) : Nat) : Int), ((12 + (((i2 % 4) + 3) % 4) : Nat) : Int)])) := (b1196.grownN hg1203 (by omega))
              have b1206 : Blk w1201 g895 70 (intVals permI) := (b1197.grownN hg1203 (by omega))
              have b1207 : Blk w1201 g21 62 (u32Vals m) := (b1198.grownN hg1203 (by omega))
              refine ⟨⟨fun h => absurd h (by decide), fun _ => ⟨b1205, b1206, b1207⟩⟩, ?_⟩
              refine anyg_nil (by decide +kernel) ?_
              refine hK979 _ _ ?_
              clear hK979
              have hF1208 := ((((((((((((((((((((((hF1200.nil.cons (hF1200.get (t := 97) (v := (.bool (decide ((4 : Int) ≤ ((i2 : Nat) : Int))))) rfl)).cons (hF1200.get (t := 18) (v := (.pointer (some ⟨g1004, 0, none⟩))) rfl)).cons (hF1200.get (t := 17) (v := (.int .i64 (i2 % 4 : Nat))) rfl)).cons (hF1200.get (t := 83) (v := (.bool (decide (((i2 : Nat) : Int) < (8 : Int))))) rfl)).cons (hF1200.get (t := 16) (v := (.int .i64 (i2 : Nat))) rfl)).cons (hF1200.get (t := 79) (v := (.bool (decide (((r : Nat) : Int) < (10 : Int))))) rfl)).cons (hF1200.get (t := 15) (v := (.int .i64 (r : Nat))) rfl)).cons (hF1200.get (t := 14) (v := (.pointer (some ⟨g895, 0, none⟩))) rfl)).cons (hF1200.get (t := 72) (v := (.bool last)) rfl)).cons (hF1200.get (t := 45) (v := (.bool (decide (((k1 : Nat) : Int) < (8 : Int))))) rfl)).cons (hF1200.get (t := 13) (v := (.int .i64 (k1 : Nat))) rfl)).cons (hF1200.get (t := 12) (v := (.pointer (some ⟨g143, 0, none⟩))) rfl)).cons (hF1200.get (t := 11) (v := (.pointer (some ⟨g125, 0, none⟩))) rfl)).cons (hF1200.get (t := 22) (v := (.bool (decide (((k : Nat) : Int) < (64 : Int))))) rfl)).cons (hF1200.get (t := 10) (v := (.int .i64 (k : Nat))) rfl)).cons (hF1200.get (t := 9) (v := (.pointer (some ⟨g21, 0, none⟩))) rfl)).cons (hF1200.get (t := 8) (v := (.pointer (some ⟨g10, 0, none⟩))) rfl)).cons (hF1200.get (t := 4) (v := (.pointer (some ⟨g2, 0, none⟩))) rfl)).cons (hF1200.get (t := 3) (v := (.bool last)) rfl)).cons (hF1200.get (t := 2) (v := (.int .u64 (n.toNat : Nat))) rfl)).cons (hF1200.get (t := 1) (v := (.slice A 64 c)) rfl)).cons (hF1200.get (t := 0) (v := (.agg (u32Vals h).toArray)) rfl))
              clear hF1200
              refine wp_region_lit ?_
              refine wpl_op (i := 0) rfl (o_val (v := (.int .i64 (i2 : Nat))) hF1208 rfl rfl rfl rfl (rn_move (hF1208.get rfl)) ?_)
              intro a1209 hF1210; clear hF1208
              refine wpl_op (i := 1) rfl (o_val (v := (.int .i64 (i2 + 1 : Nat))) hF1210 rfl rfl rfl rfl (rn_addN (a := i2) (b := 1) (hF1210.get rfl) rfl (by omega)) ?_)
              intro a1211 hF1212; clear hF1210
              refine wpl_op (i := 2) rfl (o_val (v := (.int .i64 (i2 + 1 : Nat))) hF1212 rfl rfl rfl rfl (rn_assign (hF1212.get rfl)) ?_)
              intro a1213 hF1214; clear hF1212
              refine wpList_nil ?_
              obtain ⟨v1215, e1216⟩ : ∃ z, z = (((v2.set (i2 % 4) ((mix4 (v2.getD (i2 % 4) 0) (v2.getD (4 + (((i2 % 4) + 1) % 4)) 0) (v2.getD (8 + (((i2 % 4) + 2) % 4)) 0) (v2.getD (12 + (((i2 % 4) + 3) % 4)) 0) (m.getD ((permRow r).getD (2 * i2) 0) 0) (m.getD ((permRow r).getD ((2 * i2) + 1) 0) 0)).a)).set (4 + (((i2 % 4) + 1) % 4)) ((mix4 (v2.getD (i2 % 4) 0) (v2.getD (4 + (((i2 % 4) + 1) % 4)) 0) (v2.getD (8 + (((i2 % 4) + 2) % 4)) 0) (v2.getD (12 + (((i2 % 4) + 3) % 4)) 0) (m.getD ((permRow r).getD (2 * i2) 0) 0) (m.getD ((permRow r).getD ((2 * i2) + 1) 0) 0)).b)).set (8 + (((i2 % 4) + 2) % 4)) ((mix4 (v2.getD (i2 % 4) 0) (v2.getD (4 + (((i2 % 4) + 1) % 4)) 0) (v2.getD (8 + (((i2 % 4) + 2) % 4)) 0) (v2.getD (12 + (((i2 % 4) + 3) % 4)) 0) (m.getD ((permRow r).getD (2 * i2) 0) 0) (m.getD ((permRow r).getD ((2 * i2) + 1) 0) 0)).c)).set (12 + (((i2 % 4) + 3) % 4)) ((mix4 (v2.getD (i2 % 4) 0) (v2.getD (4 + (((i2 % 4) + 1) % 4)) 0) (v2.getD (8 + (((i2 % 4) + 2) % 4)) 0) (v2.getD (12 + (((i2 % 4) + 3) % 4)) 0) (m.getD ((permRow r).getD (2 * i2) 0) 0) (m.getD ((permRow r).getD ((2 * i2) + 1) 0) 0)).d) := ⟨_, rfl⟩
              have hl1217 : v1215.length = 16 := (congrArg List.length e1216).trans (show List.length ((((v2.set (i2 % 4) ((mix4 (v2.getD (i2 % 4) 0) (v2.getD (4 + (((i2 % 4) + 1) % 4)) 0) (v2.getD (8 + (((i2 % 4) + 2) % 4)) 0) (v2.getD (12 + (((i2 % 4) + 3) % 4)) 0) (m.getD ((permRow r).getD (2 * i2) 0) 0) (m.getD ((permRow r).getD ((2 * i2) + 1) 0) 0)).a)).set (4 + (((i2 % 4) + 1) % 4)) ((mix4 (v2.getD (i2 % 4) 0) (v2.getD (4 + (((i2 % 4) + 1) % 4)) 0) (v2.getD (8 + (((i2 % 4) + 2) % 4)) 0) (v2.getD (12 + (((i2 % 4) + 3) % 4)) 0) (m.getD ((permRow r).getD (2 * i2) 0) 0) (m.getD ((permRow r).getD ((2 * i2) + 1) 0) 0)).b)).set (8 + (((i2 % 4) + 2) % 4)) ((mix4 (v2.getD (i2 % 4) 0) (v2.getD (4 + (((i2 % 4) + 1) % 4)) 0) (v2.getD (8 + (((i2 % 4) + 2) % 4)) 0) (v2.getD (12 + (((i2 % 4) + 3) % 4)) 0) (m.getD ((permRow r).getD (2 * i2) 0) 0) (m.getD ((permRow r).getD ((2 * i2) + 1) 0) 0)).c)).set (12 + (((i2 % 4) + 3) % 4)) ((mix4 (v2.getD (i2 % 4) 0) (v2.getD (4 + (((i2 % 4) + 1) % 4)) 0) (v2.getD (8 + (((i2 % 4) + 2) % 4)) 0) (v2.getD (12 + (((i2 % 4) + 3) % 4)) 0) (m.getD ((permRow r).getD (2 * i2) 0) 0) (m.getD ((permRow r).getD ((2 * i2) + 1) 0) 0)).d)) = _ from List.length_set.trans (show List.length (((v2.set (i2 % 4) ((mix4 (v2.getD (i2 % 4) 0) (v2.getD (4 + (((i2 % 4) + 1) % 4)) 0) (v2.getD (8 + (((i2 % 4) + 2) % 4)) 0) (v2.getD (12 + (((i2 % 4) + 3) % 4)) 0) (m.getD ((permRow r).getD (2 * i2) 0) 0) (m.getD ((permRow r).getD ((2 * i2) + 1) 0) 0)).a)).set (4 + (((i2 % 4) + 1) % 4)) ((mix4 (v2.getD (i2 % 4) 0) (v2.getD (4 + (((i2 % 4) + 1) % 4)) 0) (v2.getD (8 + (((i2 % 4) + 2) % 4)) 0) (v2.getD (12 + (((i2 % 4) + 3) % 4)) 0) (m.getD ((permRow r).getD (2 * i2) 0) 0) (m.getD ((permRow r).getD ((2 * i2) + 1) 0) 0)).b)).set (8 + (((i2 % 4) + 2) % 4)) ((mix4 (v2.getD (i2 % 4) 0) (v2.getD (4 + (((i2 % 4) + 1) % 4)) 0) (v2.getD (8 + (((i2 % 4) + 2) % 4)) 0) (v2.getD (12 + (((i2 % 4) + 3) % 4)) 0) (m.getD ((permRow r).getD (2 * i2) 0) 0) (m.getD ((permRow r).getD ((2 * i2) + 1) 0) 0)).c)) = _ from List.length_set.trans (show List.length ((v2.set (i2 % 4) ((mix4 (v2.getD (i2 % 4) 0) (v2.getD (4 + (((i2 % 4) + 1) % 4)) 0) (v2.getD (8 + (((i2 % 4) + 2) % 4)) 0) (v2.getD (12 + (((i2 % 4) + 3) % 4)) 0) (m.getD ((permRow r).getD (2 * i2) 0) 0) (m.getD ((permRow r).getD ((2 * i2) + 1) 0) 0)).a)).set (4 + (((i2 % 4) + 1) % 4)) ((mix4 (v2.getD (i2 % 4) 0) (v2.getD (4 + (((i2 % 4) + 1) % 4)) 0) (v2.getD (8 + (((i2 % 4) + 2) % 4)) 0) (v2.getD (12 + (((i2 % 4) + 3) % 4)) 0) (m.getD ((permRow r).getD (2 * i2) 0) 0) (m.getD ((permRow r).getD ((2 * i2) + 1) 0) 0)).b)) = _ from List.length_set.trans (show List.length (v2.set (i2 % 4) ((mix4 (v2.getD (i2 % 4) 0) (v2.getD (4 + (((i2 % 4) + 1) % 4)) 0) (v2.getD (8 + (((i2 % 4) + 2) % 4)) 0) (v2.getD (12 + (((i2 % 4) + 3) % 4)) 0) (m.getD ((permRow r).getD (2 * i2) 0) 0) (m.getD ((permRow r).getD ((2 * i2) + 1) 0) 0)).a)) = _ from List.length_set.trans hvl2))))
              rw [← e1216] at b1202
              have b1218 : Blk w1201 g2 48 (u32Vals h) := (((((((((b957.ext hx1007).grownN hg1014 (by omega)).grownN hg1054 (by omega)).ext hx1060).ext hx1154).grownN hg1176 (by omega)).grownN hg1185 (by omega)).grownN hg1194 (by omega)).grownN hg1203 (by omega))
              have b1219 : Blk w1201 g10 48 (u32Vals (List.replicate 8 0)) := (((((((((b958.ext hx1007).grownN hg1014 (by omega)).grownN hg1054 (by omega)).ext hx1060).ext hx1154).grownN hg1176 (by omega)).grownN hg1185 (by omega)).grownN hg1194 (by omega)).grownN hg1203 (by omega))
              have b1220 : Blk w1201 g143 48 (u32Vals iv) := (((((((((b961.ext hx1007).grownN hg1014 (by omega)).grownN hg1054 (by omega)).ext hx1060).ext hx1154).grownN hg1176 (by omega)).grownN hg1185 (by omega)).grownN hg1194 (by omega)).grownN hg1203 (by omega))
              refine ⟨⟨(i2 + 1), v1215, ((((((((((((((((((hF1214.nil.cons (q_get hF1214 (t := 16) rfl (by first | rfl | (congr 1; omega) | (congr 1; done)))).cons (q_get hF1214 (t := 79) rfl rfl)).cons (q_get hF1214 (t := 15) rfl rfl)).cons (q_get hF1214 (t := 14) rfl rfl)).cons (q_get hF1214 (t := 72) rfl rfl)).cons (q_get hF1214 (t := 45) rfl rfl)).cons (q_get hF1214 (t := 13) rfl rfl)).cons (q_get hF1214 (t := 12) rfl rfl)).cons (q_get hF1214 (t := 11) rfl rfl)).cons (q_get hF1214 (t := 22) rfl rfl)).cons (q_get hF1214 (t := 10) rfl rfl)).cons (q_get hF1214 (t := 9) rfl rfl)).cons (q_get hF1214 (t := 8) rfl rfl)).cons (q_get hF1214 (t := 4) rfl rfl)).cons (q_get hF1214 (t := 3) rfl rfl)).cons (q_get hF1214 (t := 2) rfl rfl)).cons (q_get hF1214 (t := 1) rfl rfl)).cons (q_get hF1214 (t := 0) rfl rfl)), (by omega), (mixTo_r2 (by omega) hp956 rfl rfl rfl rfl rfl e1216), (((((((((((Ext.refl w).trans hx954).trans hx1007).grownN hg1014 (by omega)).grownN hg1054 (by omega)).trans hx1060).trans hx1154).grownN hg1176 (by omega)).grownN hg1185 (by omega)).grownN hg1194 (by omega)).grownN hg1203 (by omega)), b1218, b1219, b1207, b1202, b1220, b1206, (by omega)⟩, ?_⟩
              rw [hF1214.get (t := 16) rfl, hL964.get (t := 16) rfl]; simp [intOf] <;> omega
            · skip
              refine wp_cond_false (c_false hF1022 rfl (decide_eq_false hc1023)) ?_
              refine wp_skip ?_
              refine hK1017 _ _ ?_
              clear hK1017
              have z1221 := permRow_lt (r := r) (by omega) (j := 2 * i2) (by omega); have z1222 := permRow_lt (r := r) (by omega) (j := 2 * i2 + 1) (by omega)
              have hx1224 : ∃ W, w1012.drew = W ∧ Ext w1012 W := ⟨_, rfl, (Ext.refl _).drew⟩
              obtain ⟨w1223, e1225, hx1224⟩ := hx1224
              have z1226 := hx1224.size
              refine anyg_start (fun W => Ext w1223 W ∧ Blk W g1004 72 (intVals ([((i2 % 4 : Nat) : Int), ((4 + (i2 % 4) : Nat) : Int), ((8 + (i2 % 4) : Nat) : Int), ((12 + (i2 % 4) : Nat) : Int)])) ∧ Blk W g125 62 (u32Vals v2) ∧ Blk W g895 70 (intVals permI) ∧ Blk W g21 62 (u32Vals m)) (fun i => i == 48 || i == 50 || i == 52 || i == 54) (fun W => Blk W g1004 72 (intVals ([((i2 % 4 : Nat) : Int), ((4 + (i2 % 4) : Nat) : Int), ((8 + (i2 % 4) : Nat) : Int), ((12 + (i2 % 4) : Nat) : Int)])) ∧ Blk W g895 70 (intVals permI) ∧ Blk W g21 62 (u32Vals m)) 55 #[false, false, false, false, false, false, false, false, false, false, false, false, false, false, false, false, false, false, false, false, false, false, false, false, false, false, false, false, false, false, false, false, false, false, false, false, false, false, false, false, false, false, false, false, false, false, false, false, false, false, false, false, false, false, false] rfl rfl rfl ?_
              rw [e1225]; clear e1225
              refine anyg_pure (i := 0) (v := (.pointer (some ⟨g1004, 0 + 0, none⟩))) hF1022 (by decide +kernel) (by decide +kernel) rfl rfl rfl rfl (fun _ _ _ _ h => h) rfl (fun W => (rn_indexArr Tryd.underlying72 (by kernel_rfl : (Tryd.prog.info? 3).map (·.size) = some 1) (hF1022.get rfl) rfl (by omega : (0 : Int) ≤ 0) (by omega : (0 : Int) < ((4 : Nat) : Int)))) ?_
              intro a1227 hF1228; clear hF1022
              have b1230 : Blk w1223 g1004 72 (intVals ([((i2 % 4 : Nat) : Int), ((4 + (i2 % 4) : Nat) : Int), ((8 + (i2 % 4) : Nat) : Int), ((12 + (i2 % 4) : Nat) : Int)])) := (b1013.ext hx1224)
              have b1231 : Blk w1223 g125 62 (u32Vals v2) := (((b960.ext hx1007).grownN hg1014 (by omega)).ext hx1224)
              have b1232 : Blk w1223 g895 70 (intVals permI) := (((b962.ext hx1007).grownN hg1014 (by omega)).ext hx1224)
              have b1233 : Blk w1223 g21 62 (u32Vals m) := (((b959.ext hx1007).grownN hg1014 (by omega)).ext hx1224)
              have hS1229 : Ext w1223 w1223 ∧ Blk w1223 g1004 72 (intVals ([((i2 % 4 : Nat) : Int), ((4 + (i2 % 4) : Nat) : Int), ((8 + (i2 % 4) : Nat) : Int), ((12 + (i2 % 4) : Nat) : Int)])) ∧ Blk w1223 g125 62 (u32Vals v2) ∧ Blk w1223 g895 70 (intVals permI) ∧ Blk w1223 g21 62 (u32Vals m) := ⟨(Ext.refl w1223), b1230, b1231, b1232, b1233⟩
              refine anyg_val (i := 1) (v := (.int .i64 (i2 % 4 : Nat))) hF1228 (by decide +kernel) (by decide +kernel) rfl rfl rfl rfl (fun _ _ _ _ h => h) rfl hS1229 (fun W hW => (rn_load (isAgg_no Tryd.underlying3 rfl) (hF1228.get rfl) (blk_intVals hW.2.1 (by omega) (show 0 < 4 from by decide)))) ?_
              intro a1234 hF1235; clear hF1228
              refine anyg_pure (i := 2) (v := (.pointer (some ⟨g1004, 0 + 1, none⟩))) hF1235 (by decide +kernel) (by decide +kernel) rfl rfl rfl rfl (fun _ _ _ _ h => h) rfl (fun W => (rn_indexArr Tryd.underlying72 (by kernel_rfl : (Tryd.prog.info? 3).map (·.size) = some 1) (hF1235.get rfl) rfl (by omega : (0 : Int) ≤ 1) (by omega : (1 : Int) < ((4 : Nat) : Int)))) ?_
              intro a1236 hF1237; clear hF1235
              have hS1238 : Blk w1223 g1004 72 (intVals ([((i2 % 4 : Nat) : Int), ((4 + (i2 % 4) : Nat) : Int), ((8 + (i2 % 4) : Nat) : Int), ((12 + (i2 % 4) : Nat) : Int)])) ∧ Blk w1223 g895 70 (intVals permI) ∧ Blk w1223 g21 62 (u32Vals m) := ⟨b1230, b1232, b1233⟩
              refine anyg_val2 (i := 3) (v := (.int .i64 (4 + (i2 % 4) : Nat))) hF1237 (by decide +kernel) (by decide +kernel) rfl rfl rfl rfl (fun _ _ _ _ h => h) rfl hS1238 (fun W hW => (rn_load (isAgg_no Tryd.underlying3 rfl) (hF1237.get rfl) (blk_intVals hW.1 (by omega) (show 1 < 4 from by decide)))) ?_
              intro a1239 hF1240; clear hF1237
              refine anyg_pure (i := 4) (v := (.pointer (some ⟨g1004, 0 + 2, none⟩))) hF1240 (by decide +kernel) (by decide +kernel) rfl rfl rfl rfl (fun _ _ _ _ h => h) rfl (fun W => (rn_indexArr Tryd.underlying72 (by kernel_rfl : (Tryd.prog.info? 3).map (·.size) = some 1) (hF1240.get rfl) rfl (by omega : (0 : Int) ≤ 2) (by omega : (2 : Int) < ((4 : Nat) : Int)))) ?_
              intro a1241 hF1242; clear hF1240
              have hS1243 : Blk w1223 g1004 72 (intVals ([((i2 % 4 : Nat) : Int), ((4 + (i2 % 4) : Nat) : Int), ((8 + (i2 % 4) : Nat) : Int), ((12 + (i2 % 4) : Nat) : Int)])) ∧ Blk w1223 g895 70 (intVals permI) ∧ Blk w1223 g21 62 (u32Vals m) := ⟨b1230, b1232, b1233⟩
              refine anyg_val2 (i := 5) (v := (.int .i64 (8 + (i2 % 4) : Nat))) hF1242 (by decide +kernel) (by decide +kernel) rfl rfl rfl rfl (fun _ _ _ _ h => h) rfl hS1243 (fun W hW => (rn_load (isAgg_no Tryd.underlying3 rfl) (hF1242.get rfl) (blk_intVals hW.1 (by omega) (show 2 < 4 from by decide)))) ?_
              intro a1244 hF1245; clear hF1242
              refine anyg_pure (i := 6) (v := (.pointer (some ⟨g1004, 0 + 3, none⟩))) hF1245 (by decide +kernel) (by decide +kernel) rfl rfl rfl rfl (fun _ _ _ _ h => h) rfl (fun W => (rn_indexArr Tryd.underlying72 (by kernel_rfl : (Tryd.prog.info? 3).map (·.size) = some 1) (hF1245.get rfl) rfl (by omega : (0 : Int) ≤ 3) (by omega : (3 : Int) < ((4 : Nat) : Int)))) ?_
              intro a1246 hF1247; clear hF1245
              have hS1248 : Blk w1223 g1004 72 (intVals ([((i2 % 4 : Nat) : Int), ((4 + (i2 % 4) : Nat) : Int), ((8 + (i2 % 4) : Nat) : Int), ((12 + (i2 % 4) : Nat) : Int)])) ∧ Blk w1223 g895 70 (intVals permI) ∧ Blk w1223 g21 62 (u32Vals m) := ⟨b1230, b1232, b1233⟩
              refine anyg_val2 (i := 7) (v := (.int .i64 (12 + (i2 % 4) : Nat))) hF1247 (by decide +kernel) (by decide +kernel) rfl rfl rfl rfl (fun _ _ _ _ h => h) rfl hS1248 (fun W hW => (rn_load (isAgg_no Tryd.underlying3 rfl) (hF1247.get rfl) (blk_intVals hW.1 (by omega) (show 3 < 4 from by decide)))) ?_
              intro a1249 hF1250; clear hF1247
              refine anyg_pure (i := 8) (v := (.pointer (some ⟨g1004, 0 + 0, none⟩))) hF1250 (by decide +kernel) (by decide +kernel) rfl rfl rfl rfl (fun _ _ _ _ h => h) rfl (fun W => (rn_indexArr Tryd.underlying72 (by kernel_rfl : (Tryd.prog.info? 3).map (·.size) = some 1) (hF1250.get rfl) rfl (by omega : (0 : Int) ≤ 0) (by omega : (0 : Int) < ((4 : Nat) : Int)))) ?_
              intro a1251 hF1252; clear hF1250
              refine anyg_val (i := 9) (v := (.int .i64 (i2 % 4 : Nat))) hF1252 (by decide +kernel) (by decide +kernel) rfl rfl rfl rfl (fun _ _ _ _ h => h) rfl hS1229 (fun W hW => (rn_load (isAgg_no Tryd.underlying3 rfl) (hF1252.get rfl) (blk_intVals hW.2.1 (by omega) (show 0 < 4 from by decide)))) ?_
              intro a1253 hF1254; clear hF1252
              refine anyg_pure (i := 10) (v := (.pointer (some ⟨g125, 0 + (i2 % 4), none⟩))) hF1254 (by decide +kernel) (by decide +kernel) rfl rfl rfl rfl (fun _ _ _ _ h => h) rfl (fun W => (rn_indexArr Tryd.underlying62 (by kernel_rfl : (Tryd.prog.info? 47).map (·.size) = some 1) (hF1254.get rfl) (hF1254.get rfl) (by omega : (0 : Int) ≤ (i2 % 4 : Nat)) (by omega : ((i2 % 4 : Nat) : Int) < ((16 : Nat) : Int)))) ?_
              intro a1255 hF1256; clear hF1254
              refine anyg_val (i := 11) (v := (.int .u32 ((v2.getD (i2 % 4) 0).toNat : Nat))) hF1256 (by decide +kernel) (by decide +kernel) rfl rfl rfl rfl (fun _ _ _ _ h => h) rfl hS1229 (fun W hW => (rn_load (isAgg_no Tryd.underlying47 rfl) (hF1256.get rfl) (blk_word hW.2.2.1 (by omega) (by have := (show List.length v2 = _ from hvl2); omega)))) ?_
              intro a1257 hF1258; clear hF1256
              refine anyg_pure (i := 12) (v := (.pointer (some ⟨g1004, 0 + 1, none⟩))) hF1258 (by decide +kernel) (by decide +kernel) rfl rfl rfl rfl (fun _ _ _ _ h => h) rfl (fun W => (rn_indexArr Tryd.underlying72 (by kernel_rfl : (Tryd.prog.info? 3).map (·.size) = some 1) (hF1258.get rfl) rfl (by omega : (0 : Int) ≤ 1) (by omega : (1 : Int) < ((4 : Nat) : Int)))) ?_
              intro a1259 hF1260; clear hF1258
              refine anyg_val (i := 13) (v := (.int .i64 (4 + (i2 % 4) : Nat))) hF1260 (by decide +kernel) (by decide +kernel) rfl rfl rfl rfl (fun _ _ _ _ h => h) rfl hS1229 (fun W hW => (rn_load (isAgg_no Tryd.underlying3 rfl) (hF1260.get rfl) (blk_intVals hW.2.1 (by omega) (show 1 < 4 from by decide)))) ?_
              intro a1261 hF1262; clear hF1260
              refine anyg_pure (i := 14) (v := (.pointer (some ⟨g125, 0 + (4 + (i2 % 4)), none⟩))) hF1262 (by decide +kernel) (by decide +kernel) rfl rfl rfl rfl (fun _ _ _ _ h => h) rfl (fun W => (rn_indexArr Tryd.underlying62 (by kernel_rfl : (Tryd.prog.info? 47).map (·.size) = some 1) (hF1262.get rfl) (hF1262.get rfl) (by omega : (0 : Int) ≤ (4 + (i2 % 4) : Nat)) (by omega : ((4 + (i2 % 4) : Nat) : Int) < ((16 : Nat) : Int)))) ?_
              intro a1263 hF1264; clear hF1262
              refine anyg_val (i := 15) (v := (.int .u32 ((v2.getD (4 + (i2 % 4)) 0).toNat : Nat))) hF1264 (by decide +kernel) (by decide +kernel) rfl rfl rfl rfl (fun _ _ _ _ h => h) rfl hS1229 (fun W hW => (rn_load (isAgg_no Tryd.underlying47 rfl) (hF1264.get rfl) (blk_word hW.2.2.1 (by omega) (by have := (show List.length v2 = _ from hvl2); omega)))) ?_
              intro a1265 hF1266; clear hF1264
              refine anyg_pure (i := 16) (v := (.pointer (some ⟨g1004, 0 + 2, none⟩))) hF1266 (by decide +kernel) (by decide +kernel) rfl rfl rfl rfl (fun _ _ _ _ h => h) rfl (fun W => (rn_indexArr Tryd.underlying72 (by kernel_rfl : (Tryd.prog.info? 3).map (·.size) = some 1) (hF1266.get rfl) rfl (by omega : (0 : Int) ≤ 2) (by omega : (2 : Int) < ((4 : Nat) : Int)))) ?_
              intro a1267 hF1268; clear hF1266
              refine anyg_val (i := 17) (v := (.int .i64 (8 + (i2 % 4) : Nat))) hF1268 (by decide +kernel) (by decide +kernel) rfl rfl rfl rfl (fun _ _ _ _ h => h) rfl hS1229 (fun W hW => (rn_load (isAgg_no Tryd.underlying3 rfl) (hF1268.get rfl) (blk_intVals hW.2.1 (by omega) (show 2 < 4 from by decide)))) ?_
              intro a1269 hF1270; clear hF1268
              refine anyg_pure (i := 18) (v := (.pointer (some ⟨g125, 0 + (8 + (i2 % 4)), none⟩))) hF1270 (by decide +kernel) (by decide +kernel) rfl rfl rfl rfl (fun _ _ _ _ h => h) rfl (fun W => (rn_indexArr Tryd.underlying62 (by kernel_rfl : (Tryd.prog.info? 47).map (·.size) = some 1) (hF1270.get rfl) (hF1270.get rfl) (by omega : (0 : Int) ≤ (8 + (i2 % 4) : Nat)) (by omega : ((8 + (i2 % 4) : Nat) : Int) < ((16 : Nat) : Int)))) ?_
              intro a1271 hF1272; clear hF1270
              refine anyg_val (i := 19) (v := (.int .u32 ((v2.getD (8 + (i2 % 4)) 0).toNat : Nat))) hF1272 (by decide +kernel) (by decide +kernel) rfl rfl rfl rfl (fun _ _ _ _ h => h) rfl hS1229 (fun W hW => (rn_load (isAgg_no Tryd.underlying47 rfl) (hF1272.get rfl) (blk_word hW.2.2.1 (by omega) (by have := (show List.length v2 = _ from hvl2); omega)))) ?_
              intro a1273 hF1274; clear hF1272
              refine anyg_pure (i := 20) (v := (.pointer (some ⟨g1004, 0 + 3, none⟩))) hF1274 (by decide +kernel) (by decide +kernel) rfl rfl rfl rfl (fun _ _ _ _ h => h) rfl (fun W => (rn_indexArr Tryd.underlying72 (by kernel_rfl : (Tryd.prog.info? 3).map (·.size) = some 1) (hF1274.get rfl) rfl (by omega : (0 : Int) ≤ 3) (by omega : (3 : Int) < ((4 : Nat) : Int)))) ?_
              intro a1275 hF1276; clear hF1274
              refine anyg_val (i := 21) (v := (.int .i64 (12 + (i2 % 4) : Nat))) hF1276 (by decide +kernel) (by decide +kernel) rfl rfl rfl rfl (fun _ _ _ _ h => h) rfl hS1229 (fun W hW => (rn_load (isAgg_no Tryd.underlying3 rfl) (hF1276.get rfl) (blk_intVals hW.2.1 (by omega) (show 3 < 4 from by decide)))) ?_
              intro a1277 hF1278; clear hF1276
              refine anyg_pure (i := 22) (v := (.pointer (some ⟨g125, 0 + (12 + (i2 % 4)), none⟩))) hF1278 (by decide +kernel) (by decide +kernel) rfl rfl rfl rfl (fun _ _ _ _ h => h) rfl (fun W => (rn_indexArr Tryd.underlying62 (by kernel_rfl : (Tryd.prog.info? 47).map (·.size) = some 1) (hF1278.get rfl) (hF1278.get rfl) (by omega : (0 : Int) ≤ (12 + (i2 % 4) : Nat)) (by omega : ((12 + (i2 % 4) : Nat) : Int) < ((16 : Nat) : Int)))) ?_
              intro a1279 hF1280; clear hF1278
              refine anyg_val (i := 23) (v := (.int .u32 ((v2.getD (12 + (i2 % 4)) 0).toNat : Nat))) hF1280 (by decide +kernel) (by decide +kernel) rfl rfl rfl rfl (fun _ _ _ _ h => h) rfl hS1229 (fun W hW => (rn_load (isAgg_no Tryd.underlying47 rfl) (hF1280.get rfl) (blk_word hW.2.2.1 (by omega) (by have := (show List.length v2 = _ from hvl2); omega)))) ?_
              intro a1281 hF1282; clear hF1280
              refine anyg_pure (i := 24) (v := (.int .i64 (r : Nat))) hF1282 (by decide +kernel) (by decide +kernel) rfl rfl rfl rfl (fun _ _ _ _ h => h) rfl (fun W => (rn_move (hF1282.get rfl))) ?_
              intro a1283 hF1284; clear hF1282
              refine anyg_pure (i := 25) (v := (.int .i64 (i2 : Nat))) hF1284 (by decide +kernel) (by decide +kernel) rfl rfl rfl rfl (fun _ _ _ _ h => h) rfl (fun W => (rn_move (hF1284.get rfl))) ?_
              intro a1285 hF1286; clear hF1284
              refine anyg_pure (i := 26) (v := (.int .i64 (2 * i2 : Nat))) hF1286 (by decide +kernel) (by decide +kernel) rfl rfl rfl rfl (fun _ _ _ _ h => h) rfl (fun W => (rn_mulN (a := 2) (b := i2) rfl (hF1286.get rfl) (by omega))) ?_
              intro a1287 hF1288; clear hF1286
              refine anyg_pure (i := 27) (v := (.pointer (some ⟨g895, 0 + r * 16, none⟩))) hF1288 (by decide +kernel) (by decide +kernel) rfl rfl rfl rfl (fun _ _ _ _ h => h) rfl (fun W => (rn_indexArrE Tryd.underlying70 (by kernel_rfl : (Tryd.prog.info? 69).map (·.size) = some 16) (hF1288.get rfl) (hF1288.get rfl) (by omega : (0 : Int) ≤ (r : Nat)) (by omega : ((r : Nat) : Int) < ((10 : Nat) : Int)) (by omega))) ?_
              intro a1289 hF1290; clear hF1288
              refine anyg_pure (i := 28) (v := (.pointer (some ⟨g895, 0 + r * 16 + (2 * i2), none⟩))) hF1290 (by decide +kernel) (by decide +kernel) rfl rfl rfl rfl (fun _ _ _ _ h => h) rfl (fun W => (rn_indexArr Tryd.underlying69 (by kernel_rfl : (Tryd.prog.info? 3).map (·.size) = some 1) (hF1290.get rfl) (hF1290.get rfl) (by omega : (0 : Int) ≤ (2 * i2 : Nat)) (by omega : ((2 * i2 : Nat) : Int) < ((16 : Nat) : Int)))) ?_
              intro a1291 hF1292; clear hF1290
              refine anyg_val (i := 29) (v := (.int .i64 ((permRow r).getD (2 * i2) 0 : Nat))) hF1292 (by decide +kernel) (by decide +kernel) rfl rfl rfl rfl (fun _ _ _ _ h => h) rfl hS1229 (fun W hW => (rn_load (isAgg_no Tryd.underlying3 rfl) (hF1292.get rfl) (blk_perm hW.2.2.2.1 (r := r) (j := (2 * i2)) (by omega) (by omega) (by omega)))) ?_
              intro a1293 hF1294; clear hF1292
              refine anyg_pure (i := 30) (v := (.pointer (some ⟨g21, 0 + ((permRow r).getD (2 * i2) 0), none⟩))) hF1294 (by decide +kernel) (by decide +kernel) rfl rfl rfl rfl (fun _ _ _ _ h => h) rfl (fun W => (rn_indexArr Tryd.underlying62 (by kernel_rfl : (Tryd.prog.info? 47).map (·.size) = some 1) (hF1294.get rfl) (hF1294.get rfl) (by omega : (0 : Int) ≤ ((permRow r).getD (2 * i2) 0 : Nat)) (by omega : (((permRow r).getD (2 * i2) 0 : Nat) : Int) < ((16 : Nat) : Int)))) ?_
              intro a1295 hF1296; clear hF1294
              refine anyg_val (i := 31) (v := (.int .u32 ((m.getD ((permRow r).getD (2 * i2) 0) 0).toNat : Nat))) hF1296 (by decide +kernel) (by decide +kernel) rfl rfl rfl rfl (fun _ _ _ _ h => h) rfl hS1229 (fun W hW => (rn_load (isAgg_no Tryd.underlying47 rfl) (hF1296.get rfl) (blk_word hW.2.2.2.2 (by omega) (by have := (show List.length m = _ from hm); omega)))) ?_
              intro a1297 hF1298; clear hF1296
              refine anyg_pure (i := 32) (v := (.int .i64 (r : Nat))) hF1298 (by decide +kernel) (by decide +kernel) rfl rfl rfl rfl (fun _ _ _ _ h => h) rfl (fun W => (rn_move (hF1298.get rfl))) ?_
              intro a1299 hF1300; clear hF1298
              refine anyg_pure (i := 33) (v := (.int .i64 (i2 : Nat))) hF1300 (by decide +kernel) (by decide +kernel) rfl rfl rfl rfl (fun _ _ _ _ h => h) rfl (fun W => (rn_move (hF1300.get rfl))) ?_
              intro a1301 hF1302; clear hF1300
              refine anyg_pure (i := 34) (v := (.int .i64 (2 * i2 : Nat))) hF1302 (by decide +kernel) (by decide +kernel) rfl rfl rfl rfl (fun _ _ _ _ h => h) rfl (fun W => (rn_mulN (a := 2) (b := i2) rfl (hF1302.get rfl) (by omega))) ?_
              intro a1303 hF1304; clear hF1302
              refine anyg_pure (i := 35) (v := (.int .i64 ((2 * i2) + 1 : Nat))) hF1304 (by decide +kernel) (by decide +kernel) rfl rfl rfl rfl (fun _ _ _ _ h => h) rfl (fun W => (rn_addN (a := 2 * i2) (b := 1) (hF1304.get rfl) rfl (by omega))) ?_
              intro a1305 hF1306; clear hF1304
              refine anyg_pure (i := 36) (v := (.pointer (some ⟨g895, 0 + r * 16, none⟩))) hF1306 (by decide +kernel) (by decide +kernel) rfl rfl rfl rfl (fun _ _ _ _ h => h) rfl (fun W => (rn_indexArrE Tryd.underlying70 (by kernel_rfl : (Tryd.prog.info? 69).map (·.size) = some 16) (hF1306.get rfl) (hF1306.get rfl) (by omega : (0 : Int) ≤ (r : Nat)) (by omega : ((r : Nat) : Int) < ((10 : Nat) : Int)) (by omega))) ?_
              intro a1307 hF1308; clear hF1306
              refine anyg_pure (i := 37) (v := (.pointer (some ⟨g895, 0 + r * 16 + ((2 * i2) + 1), none⟩))) hF1308 (by decide +kernel) (by decide +kernel) rfl rfl rfl rfl (fun _ _ _ _ h => h) rfl (fun W => (rn_indexArr Tryd.underlying69 (by kernel_rfl : (Tryd.prog.info? 3).map (·.size) = some 1) (hF1308.get rfl) (hF1308.get rfl) (by omega : (0 : Int) ≤ ((2 * i2) + 1 : Nat)) (by omega : (((2 * i2) + 1 : Nat) : Int) < ((16 : Nat) : Int)))) ?_
              intro a1309 hF1310; clear hF1308
              refine anyg_val (i := 38) (v := (.int .i64 ((permRow r).getD ((2 * i2) + 1) 0 : Nat))) hF1310 (by decide +kernel) (by decide +kernel) rfl rfl rfl rfl (fun _ _ _ _ h => h) rfl hS1229 (fun W hW => (rn_load (isAgg_no Tryd.underlying3 rfl) (hF1310.get rfl) (blk_perm hW.2.2.2.1 (r := r) (j := ((2 * i2) + 1)) (by omega) (by omega) (by omega)))) ?_
              intro a1311 hF1312; clear hF1310
              refine anyg_pure (i := 39) (v := (.pointer (some ⟨g21, 0 + ((permRow r).getD ((2 * i2) + 1) 0), none⟩))) hF1312 (by decide +kernel) (by decide +kernel) rfl rfl rfl rfl (fun _ _ _ _ h => h) rfl (fun W => (rn_indexArr Tryd.underlying62 (by kernel_rfl : (Tryd.prog.info? 47).map (·.size) = some 1) (hF1312.get rfl) (hF1312.get rfl) (by omega : (0 : Int) ≤ ((permRow r).getD ((2 * i2) + 1) 0 : Nat)) (by omega : (((permRow r).getD ((2 * i2) + 1) 0 : Nat) : Int) < ((16 : Nat) : Int)))) ?_
              intro a1313 hF1314; clear hF1312
              refine anyg_val (i := 40) (v := (.int .u32 ((m.getD ((permRow r).getD ((2 * i2) + 1) 0) 0).toNat : Nat))) hF1314 (by decide +kernel) (by decide +kernel) rfl rfl rfl rfl (fun _ _ _ _ h => h) rfl hS1229 (fun W hW => (rn_load (isAgg_no Tryd.underlying47 rfl) (hF1314.get rfl) (blk_word hW.2.2.2.2 (by omega) (by have := (show List.length m = _ from hm); omega)))) ?_
              intro a1315 hF1316; clear hF1314
              refine anyg_one (i := 41) (by decide +kernel) rfl ?_
              refine o_call hF1316 rfl rfl rfl rfl (rn_call (args6 (hF1316.get rfl) (hF1316.get rfl) (hF1316.get rfl) (hF1316.get rfl) (hF1316.get rfl) (hF1316.get rfl)) rfl (by kernel_rfl)) (rmix_any (v2.getD (i2 % 4) 0) (v2.getD (4 + (i2 % 4)) 0) (v2.getD (8 + (i2 % 4)) 0) (v2.getD (12 + (i2 % 4)) 0) (m.getD ((permRow r).getD (2 * i2) 0) 0) (m.getD ((permRow r).getD ((2 * i2) + 1) 0) 0) _) ?_
              rintro _ w1317 ⟨rfl, hx1318⟩
              refine ⟨_, rfl, ?_⟩; intro a1319 hF1320; clear hF1316; have z1321 := hx1318.size
              have b1322 : Blk w1317 g1004 72 (intVals ([((i2 % 4 : Nat) : Int), ((4 + (i2 % 4) : Nat) : Int), ((8 + (i2 % 4) : Nat) : Int), ((12 + (i2 % 4) : Nat) : Int)])) := (b1230.ext hx1318)
              have b1323 : Blk w1317 g125 62 (u32Vals v2) := (b1231.ext hx1318)
              have b1324 : Blk w1317 g895 70 (intVals permI) := (b1232.ext hx1318)
              have b1325 : Blk w1317 g21 62 (u32Vals m) := (b1233.ext hx1318)
              refine ⟨⟨fun _ _ => ⟨((Ext.refl w1223).trans hx1318), b1322, b1323, b1324, b1325⟩, fun _ => ⟨b1322, b1324, b1325⟩⟩, ?_⟩
              refine anyg_pure (i := 42) (v := (.tuple #[(.int .u32 (((mix4 (v2.getD (i2 % 4) 0) (v2.getD (4 + (i2 % 4)) 0) (v2.getD (8 + (i2 % 4)) 0) (v2.getD (12 + (i2 % 4)) 0) (m.getD ((permRow r).getD (2 * i2) 0) 0) (m.getD ((permRow r).getD ((2 * i2) + 1) 0) 0)).a).toNat : Nat)), (.int .u32 (((mix4 (v2.getD (i2 % 4) 0) (v2.getD (4 + (i2 % 4)) 0) (v2.getD (8 + (i2 % 4)) 0) (v2.getD (12 + (i2 % 4)) 0) (m.getD ((permRow r).getD (2 * i2) 0) 0) (m.getD ((permRow r).getD ((2 * i2) + 1) 0) 0)).b).toNat : Nat)), (.int .u32 (((mix4 (v2.getD (i2 % 4) 0) (v2.getD (4 + (i2 % 4)) 0) (v2.getD (8 + (i2 % 4)) 0) (v2.getD (12 + (i2 % 4)) 0) (m.getD ((permRow r).getD (2 * i2) 0) 0) (m.getD ((permRow r).getD ((2 * i2) + 1) 0) 0)).c).toNat : Nat)), (.int .u32 (((mix4 (v2.getD (i2 % 4) 0) (v2.getD (4 + (i2 % 4)) 0) (v2.getD (8 + (i2 % 4)) 0) (v2.getD (12 + (i2 % 4)) 0) (m.getD ((permRow r).getD (2 * i2) 0) 0) (m.getD ((permRow r).getD ((2 * i2) + 1) 0) 0)).d).toNat : Nat))])) hF1320 (by decide +kernel) (by decide +kernel) rfl rfl rfl rfl (fun _ _ _ _ h => h) rfl (fun W => (rn_move (hF1320.get rfl))) ?_
              intro a1326 hF1327; clear hF1320
              refine anyg_pure (i := 43) (v := (.int .u32 (((mix4 (v2.getD (i2 % 4) 0) (v2.getD (4 + (i2 % 4)) 0) (v2.getD (8 + (i2 % 4)) 0) (v2.getD (12 + (i2 % 4)) 0) (m.getD ((permRow r).getD (2 * i2) 0) 0) (m.getD ((permRow r).getD ((2 * i2) + 1) 0) 0)).a).toNat : Nat))) hF1327 (by decide +kernel) (by decide +kernel) rfl rfl rfl rfl (fun _ _ _ _ h => h) rfl (fun W => (rn_extract (hF1327.get rfl) rfl)) ?_
              intro a1328 hF1329; clear hF1327
              refine anyg_pure (i := 44) (v := (.int .u32 (((mix4 (v2.getD (i2 % 4) 0) (v2.getD (4 + (i2 % 4)) 0) (v2.getD (8 + (i2 % 4)) 0) (v2.getD (12 + (i2 % 4)) 0) (m.getD ((permRow r).getD (2 * i2) 0) 0) (m.getD ((permRow r).getD ((2 * i2) + 1) 0) 0)).b).toNat : Nat))) hF1329 (by decide +kernel) (by decide +kernel) rfl rfl rfl rfl (fun _ _ _ _ h => h) rfl (fun W => (rn_extract (hF1329.get rfl) rfl)) ?_
              intro a1330 hF1331; clear hF1329
              refine anyg_pure (i := 45) (v := (.int .u32 (((mix4 (v2.getD (i2 % 4) 0) (v2.getD (4 + (i2 % 4)) 0) (v2.getD (8 + (i2 % 4)) 0) (v2.getD (12 + (i2 % 4)) 0) (m.getD ((permRow r).getD (2 * i2) 0) 0) (m.getD ((permRow r).getD ((2 * i2) + 1) 0) 0)).c).toNat : Nat))) hF1331 (by decide +kernel) (by decide +kernel) rfl rfl rfl rfl (fun _ _ _ _ h => h) rfl (fun W => (rn_extract (hF1331.get rfl) rfl)) ?_
              intro a1332 hF1333; clear hF1331
              refine anyg_pure (i := 46) (v := (.int .u32 (((mix4 (v2.getD (i2 % 4) 0) (v2.getD (4 + (i2 % 4)) 0) (v2.getD (8 + (i2 % 4)) 0) (v2.getD (12 + (i2 % 4)) 0) (m.getD ((permRow r).getD (2 * i2) 0) 0) (m.getD ((permRow r).getD ((2 * i2) + 1) 0) 0)).d).toNat : Nat))) hF1333 (by decide +kernel) (by decide +kernel) rfl rfl rfl rfl (fun _ _ _ _ h => h) rfl (fun W => (rn_extract (hF1333.get rfl) rfl)) ?_
              intro a1334 hF1335; clear hF1333
              refine anyg_pure (i := 47) (v := (.pointer (some ⟨g125, 0 + (i2 % 4), none⟩))) hF1335 (by decide +kernel) (by decide +kernel) rfl rfl rfl rfl (fun _ _ _ _ h => h) rfl (fun W => (rn_indexArr Tryd.underlying62 (by kernel_rfl : (Tryd.prog.info? 47).map (·.size) = some 1) (hF1335.get rfl) (hF1335.get rfl) (by omega : (0 : Int) ≤ (i2 % 4 : Nat)) (by omega : ((i2 % 4 : Nat) : Int) < ((16 : Nat) : Int)))) ?_
              intro a1336 hF1337; clear hF1335
              refine anyg_one (i := 48) (by decide +kernel) rfl ?_
              refine o_store1 (new := (u32Vals (v2.set (i2 % 4) ((mix4 (v2.getD (i2 % 4) 0) (v2.getD (4 + (i2 % 4)) 0) (v2.getD (8 + (i2 % 4)) 0) (v2.getD (12 + (i2 % 4)) 0) (m.getD ((permRow r).getD (2 * i2) 0) 0) (m.getD ((permRow r).getD ((2 * i2) + 1) 0) 0)).a)))) hF1337 rfl rfl rfl rfl (hF1337.get rfl) (hF1337.get rfl) b1323 (by kernel_rfl : (Tryd.prog.info? 47).map (·.size) = some 1) (by rw [u32Vals_len hvl2]; omega) rfl (u32Vals_set (by omega)) ?_
              intro w1338 b1339 hg1340; have z1341 := hg1340.size
              have b1342 : Blk w1338 g1004 72 (intVals ([((i2 % 4 : Nat) : Int), ((4 + (i2 % 4) : Nat) : Int), ((8 + (i2 % 4) : Nat) : Int), ((12 + (i2 % 4) : Nat) : Int)])) := (b1322.grownN hg1340 (by omega))
              have b1343 : Blk w1338 g895 70 (intVals permI) := (b1324.grownN hg1340 (by omega))
              have b1344 : Blk w1338 g21 62 (u32Vals m) := (b1325.grownN hg1340 (by omega))
              refine ⟨⟨fun h => absurd h (by decide), fun _ => ⟨b1342, b1343, b1344⟩⟩, ?_⟩
              refine anyg_pure (i := 49) (v := (.pointer (some ⟨g125, 0 + (4 + (i2 % 4)), none⟩))) hF1337 (by decide +kernel) (by decide +kernel) rfl rfl rfl rfl (fun _ _ _ _ h => h) rfl (fun W => (rn_indexArr Tryd.underlying62 (by kernel_rfl : (Tryd.prog.info? 47).map (·.size) = some 1) (hF1337.get rfl) (hF1337.get rfl) (by omega : (0 : Int) ≤ (4 + (i2 % 4) : Nat)) (by omega : ((4 + (i2 % 4) : Nat) : Int) < ((16 : Nat) : Int)))) ?_
              intro a1345 hF1346; clear hF1337
              refine anyg_one (i := 50) (by decide +kernel) rfl ?_
              refine o_store1 (new := (u32Vals ((v2.set (i2 % 4) ((mix4 (v2.getD (i2 % 4) 0) (v2.getD (4 + (i2 % 4)) 0) (v2.getD (8 + (i2 % 4)) 0) (v2.getD (12 + (i2 % 4)) 0) (m.getD ((permRow r).getD (2 * i2) 0) 0) (m.getD ((permRow r).getD ((2 * i2) + 1) 0) 0)).a)).set (4 + (i2 % 4)) ((mix4 (v2.getD (i2 % 4) 0) (v2.getD (4 + (i2 % 4)) 0) (v2.getD (8 + (i2 % 4)) 0) (v2.getD (12 + (i2 % 4)) 0) (m.getD ((permRow r).getD (2 * i2) 0) 0) (m.getD ((permRow r).getD ((2 * i2) + 1) 0) 0)).b)))) hF1346 rfl rfl rfl rfl (hF1346.get rfl) (hF1346.get rfl) b1339 (by kernel_rfl : (Tryd.prog.info? 47).map (·.size) = some 1) (by rw [u32Vals_len (show List.length (v2.set (i2 % 4) ((mix4 (v2.getD (i2 % 4) 0) (v2.getD (4 + (i2 % 4)) 0) (v2.getD (8 + (i2 % 4)) 0) (v2.getD (12 + (i2 % 4)) 0) (m.getD ((permRow r).getD (2 * i2) 0) 0) (m.getD ((permRow r).getD ((2 * i2) + 1) 0) 0)).a)) = _ from List.length_set.trans hvl2)]; omega) rfl (u32Vals_set (by omega)) ?_
              intro w1347 b1348 hg1349; have z1350 := hg1349.size
              have b1351 : Blk w1347 g1004 72 (intVals ([((i2 % 4 : Nat) : Int), ((4 + (i2 % 4) : Nat) : Int), ((8 + (i2 % 4) : Nat) : Int), ((12 + (i2 % 4) : Nat) : Int)])) := (b1342.grownN hg1349 (by omega))
              have b1352 : Blk w1347 g895 70 (intVals permI) := (b1343.grownN hg1349 (by omega))
              have b1353 : Blk w1347 g21 62 (u32Vals m) := (b1344.grownN hg1349 (by omega))
              refine ⟨⟨fun h => absurd h (by decide), fun _ => ⟨b1351, b1352, b1353⟩⟩, ?_⟩
              refine anyg_pure (i := 51) (v := (.pointer (some ⟨g125, 0 + (8 + (i2 % 4)), none⟩))) hF1346 (by decide +kernel) (by decide +kernel) rfl rfl rfl rfl (fun _ _ _ _ h => h) rfl (fun W => (rn_indexArr Tryd.underlying62 (by kernel_rfl : (Tryd.prog.info? 47).map (·.size) = some 1) (hF1346.get rfl) (hF1346.get rfl) (by omega : (0 : Int) ≤ (8 + (i2 % 4) : Nat)) (by omega : ((8 + (i2 % 4) : Nat) : Int) < ((16 : Nat) : Int)))) ?_
              intro a1354 hF1355; clear hF1346
              refine anyg_one (i := 52) (by decide +kernel) rfl ?_
              refine o_store1 (new := (u32Vals (((v2.set (i2 % 4) ((mix4 (v2.getD (i2 % 4) 0) (v2.getD (4 + (i2 % 4)) 0) (v2.getD (8 + (i2 % 4)) 0) (v2.getD (12 + (i2 % 4)) 0) (m.getD ((permRow r).getD (2 * i2) 0) 0) (m.getD ((permRow r).getD ((2 * i2) + 1) 0) 0)).a)).set (4 + (i2 % 4)) ((mix4 (v2.getD (i2 % 4) 0) (v2.getD (4 + (i2 % 4)) 0) (v2.getD (8 + (i2 % 4)) 0) (v2.getD (12 + (i2 % 4)) 0) (m.getD ((permRow r).getD (2 * i2) 0) 0) (m.getD ((permRow r).getD ((2 * i2) + 1) 0) 0)).b)).set (8 + (i2 % 4)) ((mix4 (v2.getD (i2 % 4) 0) (v2.getD (4 + (i2 % 4)) 0) (v2.getD (8 + (i2 % 4)) 0) (v2.getD (12 + (i2 % 4)) 0) (m.getD ((permRow r).getD (2 * i2) 0) 0) (m.getD ((permRow r).getD ((2 * i2) + 1) 0) 0)).c)))) hF1355 rfl rfl rfl rfl (hF1355.get rfl) (hF1355.get rfl) b1348 (by kernel_rfl : (Tryd.prog.info? 47).map (·.size) = some 1) (by rw [u32Vals_len (show List.length ((v2.set (i2 % 4) ((mix4 (v2.getD (i2 % 4) 0) (v2.getD (4 + (i2 % 4)) 0) (v2.getD (8 + (i2 % 4)) 0) (v2.getD (12 + (i2 % 4)) 0) (m.getD ((permRow r).getD (2 * i2) 0) 0) (m.getD ((permRow r).getD ((2 * i2) + 1) 0) 0)).a)).set (4 + (i2 % 4)) ((mix4 (v2.getD (i2 % 4) 0) (v2.getD (4 + (i2 % 4)) 0) (v2.getD (8 + (i2 % 4)) 0) (v2.getD (12 + (i2 % 4)) 0) (m.getD ((permRow r).getD (2 * i2) 0) 0) (m.getD ((permRow r).getD ((2 * i2) + 1) 0) 0)).b)) = _ from List.length_set.trans (show List.length (v2.set (i2 % 4) ((mix4 (v2.getD (i2 % 4) 0) (v2.getD (4 + (i2 % 4)) 0) (v2.getD (8 + (i2 % 4)) 0) (v2.getD (12 + (i2 % 4)) 0) (m.getD ((permRow r).getD (2 * i2) 0) 0) (m.getD ((permRow r).getD ((2 * i2) + 1) 0) 0)).a)) = _ from List.length_set.trans hvl2))]; omega) rfl (u32Vals_set (by omega)) ?_
              intro w1356 b1357 hg1358; have z1359 := hg1358.size
              have b1360 : Blk w1356 g1004 72 (intVals ([((i2 % 4 : Nat) : Int), ((4 + (i2 % 4) : Nat) : Int), ((8 + (i2 % 4) : Nat) : Int), ((12 + (i2 % 4) : Nat) : Int)])) := (b1351.grownN hg1358 (by omega))
              have b1361 : Blk w1356 g895 70 (intVals permI) := (b1352.grownN hg1358 (by omega))
              have b1362 : Blk w1356 g21 62 (u32Vals m) := (b1353.grownN hg1358 (by omega))
              refine ⟨⟨fun h => absurd h (by decide), fun _ => ⟨b1360, b1361, b1362⟩⟩, ?_⟩
              refine anyg_pure (i := 53) (v := (.pointer (some ⟨g125, 0 + (12 + (i2 % 4)), none⟩))) hF1355 (by decide +kernel) (by decide +kernel) rfl rfl rfl rfl (fun _ _ _ _ h => h) rfl (fun W => (rn_indexArr Tryd.underlying62 (by kernel_rfl : (Tryd.prog.info? 47).map (·.size) = some 1) (hF1355.get rfl) (hF1355.get rfl) (by omega : (0 : Int) ≤ (12 + (i2 % 4) : Nat)) (by omega : ((12 + (i2 % 4) : Nat) : Int) < ((16 : Nat) : Int)))) ?_
              intro a1363 hF1364; clear hF1355
              refine anyg_one (i := 54) (by decide +kernel) rfl ?_
              refine o_store1 (new := (u32Vals ((((v2.set (i2 % 4) ((mix4 (v2.getD (i2 % 4) 0) (v2.getD (4 + (i2 % 4)) 0) (v2.getD (8 + (i2 % 4)) 0) (v2.getD (12 + (i2 % 4)) 0) (m.getD ((permRow r).getD (2 * i2) 0) 0) (m.getD ((permRow r).getD ((2 * i2) + 1) 0) 0)).a)).set (4 + (i2 % 4)) ((mix4 (v2.getD (i2 % 4) 0) (v2.getD (4 + (i2 % 4)) 0) (v2.getD (8 + (i2 % 4)) 0) (v2.getD (12 + (i2 % 4)) 0) (m.getD ((permRow r).getD (2 * i2) 0) 0) (m.getD ((permRow r).getD ((2 * i2) + 1) 0) 0)).b)).set (8 + (i2 % 4)) ((mix4 (v2.getD (i2 % 4) 0) (v2.getD (4 + (i2 % 4)) 0) (v2.getD (8 + (i2 % 4)) 0) (v2.getD (12 + (i2 % 4)) 0) (m.getD ((permRow r).getD (2 * i2) 0) 0) (m.getD ((permRow r).getD ((2 * i2) + 1) 0) 0)).c)).set (12 + (i2 % 4)) ((mix4 (v2.getD (i2 % 4) 0) (v2.getD (4 + (i2 % 4)) 0) (v2.getD (8 + (i2 % 4)) 0) (v2.getD (12 + (i2 % 4)) 0) (m.getD ((permRow r).getD (2 * i2) 0) 0) (m.getD ((permRow r).getD ((2 * i2) + 1) 0) 0)).d)))) hF1364 rfl rfl rfl rfl (hF1364.get rfl) (hF1364.get rfl) b1357 (by kernel_rfl : (Tryd.prog.info? 47).map (·.size) = some 1) (by rw [u32Vals_len (show List.length (((v2.set (i2 % 4) ((mix4 (v2.getD (i2 % 4) 0) (v2.getD (4 + (i2 % 4)) 0) (v2.getD (8 + (i2 % 4)) 0) (v2.getD (12 + (i2 % 4)) 0) (m.getD ((permRow r).getD (2 * i2) 0) 0) (m.getD ((permRow r).getD ((2 * i2) + 1) 0) 0)).a)).set (4 + (i2 % 4)) ((mix4 (v2.getD (i2 % 4) 0) (v2.getD (4 + (i2 % 4)) 0) (v2.getD (8 + (i2 % 4)) 0) (v2.getD (12 + (i2 % 4)) 0) (m.getD ((permRow r).getD (2 * i2) 0) 0) (m.getD ((permRow r).getD ((2 * i2) + 1) 0) 0)).b)).set (8 + (i2 % 4)) ((mix4 (v2.getD (i2 % 4) 0) (v2.getD (4 + (i2 % 4)) 0) (v2.getD (8 + (i2 % 4)) 0) (v2.getD (12 + (i2 % 4)) 0) (m.getD ((permRow r).getD (2 * i2) 0) 0) (m.getD ((permRow r).getD ((2 * i2) + 1) 0) 0)).c)) = _ from List.length_set.trans (show List.length ((v2.set (i2 % 4) ((mix4 (v2.getD (i2 % 4) 0) (v2.getD (4 + (i2 % 4)) 0) (v2.getD (8 + (i2 % 4)) 0) (v2.getD (12 + (i2 % 4)) 0) (m.getD ((permRow r).getD (2 * i2) 0) 0) (m.getD ((permRow r).getD ((2 * i2) + 1) 0) 0)).a)).set (4 + (i2 % 4)) ((mix4 (v2.getD (i2 % 4) 0) (v2.getD (4 + (i2 % 4)) 0) (v2.getD (8 + (i2 % 4)) 0) (v2.getD (12 + (i2 % 4)) 0) (m.getD ((permRow r).getD (2 * i2) 0) 0) (m.getD ((permRow r).getD ((2 * i2) + 1) 0) 0)).b)) = _ from List.length_set.trans (show List.length (v2.set (i2 % 4) ((mix4 (v2.getD (i2 % 4) 0) (v2.getD (4 + (i2 % 4)) 0) (v2.getD (8 + (i2 % 4)) 0) (v2.getD (12 + (i2 % 4)) 0) (m.getD ((permRow r).getD (2 * i2) 0) 0) (m.getD ((permRow r).getD ((2 * i2) + 1) 0) 0)).a)) = _ from List.length_set.trans hvl2)))]; omega) rfl (u32Vals_set (by omega)) ?_
              intro w1365 b1366 hg1367; have z1368 := hg1367.size
              have b1369 : Blk w1365 g1004 72 (intVals ([((i2 % 4 : Nat) : Int), ((4 + (i2 % 4) : Nat) : Int), ((8 + (i2 % 4) : Nat) : Int), ((12 + (i2 % 4) : Nat) : Int)])) := (b1360.grownN hg1367 (by omega))
              have b1370 : Blk w1365 g895 70 (intVals permI) := (b1361.grownN hg1367 (by omega))
              have b1371 : Blk w1365 g21 62 (u32Vals m) := (b1362.grownN hg1367 (by omega))
              refine ⟨⟨fun h => absurd h (by decide), fun _ => ⟨b1369, b1370, b1371⟩⟩, ?_⟩
              refine anyg_nil (by decide +kernel) ?_
              refine hK979 _ _ ?_
              clear hK979
              have hF1372 := ((((((((((((((((((((((hF1364.nil.cons (hF1364.get (t := 97) (v := (.bool (decide ((4 : Int) ≤ ((i2 : Nat) : Int))))) rfl)).cons (hF1364.get (t := 18) (v := (.pointer (some ⟨g1004, 0, none⟩))) rfl)).cons (hF1364.get (t := 17) (v := (.int .i64 (i2 % 4 : Nat))) rfl)).cons (hF1364.get (t := 83) (v := (.bool (decide (((i2 : Nat) : Int) < (8 : Int))))) rfl)).cons (hF1364.get (t := 16) (v := (.int .i64 (i2 : Nat))) rfl)).cons (hF1364.get (t := 79) (v := (.bool (decide (((r : Nat) : Int) < (10 : Int))))) rfl)).cons (hF1364.get (t := 15) (v := (.int .i64 (r : Nat))) rfl)).cons (hF1364.get (t := 14) (v := (.pointer (some ⟨g895, 0, none⟩))) rfl)).cons (hF1364.get (t := 72) (v := (.bool last)) rfl)).cons (hF1364.get (t := 45) (v := (.bool (decide (((k1 : Nat) : Int) < (8 : Int))))) rfl)).cons (hF1364.get (t := 13) (v := (.int .i64 (k1 : Nat))) rfl)).cons (hF1364.get (t := 12) (v := (.pointer (some ⟨g143, 0, none⟩))) rfl)).cons (hF1364.get (t := 11) (v := (.pointer (some ⟨g125, 0, none⟩))) rfl)).cons (hF1364.get (t := 22) (v := (.bool (decide (((k : Nat) : Int) < (64 : Int))))) rfl)).cons (hF1364.get (t := 10) (v := (.int .i64 (k : Nat))) rfl)).cons (hF1364.get (t := 9) (v := (.pointer (some ⟨g21, 0, none⟩))) rfl)).cons (hF1364.get (t := 8) (v := (.pointer (some ⟨g10, 0, none⟩))) rfl)).cons (hF1364.get (t := 4) (v := (.pointer (some ⟨g2, 0, none⟩))) rfl)).cons (hF1364.get (t := 3) (v := (.bool last)) rfl)).cons (hF1364.get (t := 2) (v := (.int .u64 (n.toNat : Nat))) rfl)).cons (hF1364.get (t := 1) (v := (.slice A 64 c)) rfl)).cons (hF1364.get (t := 0) (v := (.agg (u32Vals h).toArray)) rfl))
              clear hF1364
              refine wp_region_lit ?_
              refine wpl_op (i := 0) rfl (o_val (v := (.int .i64 (i2 : Nat))) hF1372 rfl rfl rfl rfl (rn_move (hF1372.get rfl)) ?_)
              intro a1373 hF1374; clear hF1372
              refine wpl_op (i := 1) rfl (o_val (v := (.int .i64 (i2 + 1 : Nat))) hF1374 rfl rfl rfl rfl (rn_addN (a := i2) (b := 1) (hF1374.get rfl) rfl (by omega)) ?_)
              intro a1375 hF1376; clear hF1374
              refine wpl_op (i := 2) rfl (o_val (v := (.int .i64 (i2 + 1 : Nat))) hF1376 rfl rfl rfl rfl (rn_assign (hF1376.get rfl)) ?_)
              intro a1377 hF1378; clear hF1376
              refine wpList_nil ?_
              obtain ⟨v1379, e1380⟩ : ∃ z, z = (((v2.set (i2 % 4) ((mix4 (v2.getD (i2 % 4) 0) (v2.getD (4 + (i2 % 4)) 0) (v2.getD (8 + (i2 % 4)) 0) (v2.getD (12 + (i2 % 4)) 0) (m.getD ((permRow r).getD (2 * i2) 0) 0) (m.getD ((permRow r).getD ((2 * i2) + 1) 0) 0)).a)).set (4 + (i2 % 4)) ((mix4 (v2.getD (i2 % 4) 0) (v2.getD (4 + (i2 % 4)) 0) (v2.getD (8 + (i2 % 4)) 0) (v2.getD (12 + (i2 % 4)) 0) (m.getD ((permRow r).getD (2 * i2) 0) 0) (m.getD ((permRow r).getD ((2 * i2) + 1) 0) 0)).b)).set (8 + (i2 % 4)) ((mix4 (v2.getD (i2 % 4) 0) (v2.getD (4 + (i2 % 4)) 0) (v2.getD (8 + (i2 % 4)) 0) (v2.getD (12 + (i2 % 4)) 0) (m.getD ((permRow r).getD (2 * i2) 0) 0) (m.getD ((permRow r).getD ((2 * i2) + 1) 0) 0)).c)).set (12 + (i2 % 4)) ((mix4 (v2.getD (i2 % 4) 0) (v2.getD (4 + (i2 % 4)) 0) (v2.getD (8 + (i2 % 4)) 0) (v2.getD (12 + (i2 % 4)) 0) (m.getD ((permRow r).getD (2 * i2) 0) 0) (m.getD ((permRow r).getD ((2 * i2) + 1) 0) 0)).d) := ⟨_, rfl⟩
              have hl1381 : v1379.length = 16 := (congrArg List.length e1380).trans (show List.length ((((v2.set (i2 % 4) ((mix4 (v2.getD (i2 % 4) 0) (v2.getD (4 + (i2 % 4)) 0) (v2.getD (8 + (i2 % 4)) 0) (v2.getD (12 + (i2 % 4)) 0) (m.getD ((permRow r).getD (2 * i2) 0) 0) (m.getD ((permRow r).getD ((2 * i2) + 1) 0) 0)).a)).set (4 + (i2 % 4)) ((mix4 (v2.getD (i2 % 4) 0) (v2.getD (4 + (i2 % 4)) 0) (v2.getD (8 + (i2 % 4)) 0) (v2.getD (12 + (i2 % 4)) 0) (m.getD ((permRow r).getD (2 * i2) 0) 0) (m.getD ((permRow r).getD ((2 * i2) + 1) 0) 0)).b)).set (8 + (i2 % 4)) ((mix4 (v2.getD (i2 % 4) 0) (v2.getD (4 + (i2 % 4)) 0) (v2.getD (8 + (i2 % 4)) 0) (v2.getD (12 + (i2 % 4)) 0) (m.getD ((permRow r).getD (2 * i2) 0) 0) (m.getD ((permRow r).getD ((2 * i2) + 1) 0) 0)).c)).set (12 + (i2 % 4)) ((mix4 (v2.getD (i2 % 4) 0) (v2.getD (4 + (i2 % 4)) 0) (v2.getD (8 + (i2 % 4)) 0) (v2.getD (12 + (i2 % 4)) 0) (m.getD ((permRow r).getD (2 * i2) 0) 0) (m.getD ((permRow r).getD ((2 * i2) + 1) 0) 0)).d)) = _ from List.length_set.trans (show List.length (((v2.set (i2 % 4) ((mix4 (v2.getD (i2 % 4) 0) (v2.getD (4 + (i2 % 4)) 0) (v2.getD (8 + (i2 % 4)) 0) (v2.getD (12 + (i2 % 4)) 0) (m.getD ((permRow r).getD (2 * i2) 0) 0) (m.getD ((permRow r).getD ((2 * i2) + 1) 0) 0)).a)).set (4 + (i2 % 4)) ((mix4 (v2.getD (i2 % 4) 0) (v2.getD (4 + (i2 % 4)) 0) (v2.getD (8 + (i2 % 4)) 0) (v2.getD (12 + (i2 % 4)) 0) (m.getD ((permRow r).getD (2 * i2) 0) 0) (m.getD ((permRow r).getD ((2 * i2) + 1) 0) 0)).b)).set (8 + (i2 % 4)) ((mix4 (v2.getD (i2 % 4) 0) (v2.getD (4 + (i2 % 4)) 0) (v2.getD (8 + (i2 % 4)) 0) (v2.getD (12 + (i2 % 4)) 0) (m.getD ((permRow r).getD (2 * i2) 0) 0) (m.getD ((permRow r).getD ((2 * i2) + 1) 0) 0)).c)) = _ from List.length_set.trans (show List.length ((v2.set (i2 % 4) ((mix4 (v2.getD (i2 % 4) 0) (v2.getD (4 + (i2 % 4)) 0) (v2.getD (8 + (i2 % 4)) 0) (v2.getD (12 + (i2 % 4)) 0) (m.getD ((permRow r).getD (2 * i2) 0) 0) (m.getD ((permRow r).getD ((2 * i2) + 1) 0) 0)).a)).set (4 + (i2 % 4)) ((mix4 (v2.getD (i2 % 4) 0) (v2.getD (4 + (i2 % 4)) 0) (v2.getD (8 + (i2 % 4)) 0) (v2.getD (12 + (i2 % 4)) 0) (m.getD ((permRow r).getD (2 * i2) 0) 0) (m.getD ((permRow r).getD ((2 * i2) + 1) 0) 0)).b)) = _ from List.length_set.trans (show List.length (v2.set (i2 % 4) ((mix4 (v2.getD (i2 % 4) 0) (v2.getD (4 + (i2 % 4)) 0) (v2.getD (8 + (i2 % 4)) 0) (v2.getD (12 + (i2 % 4)) 0) (m.getD ((permRow r).getD (2 * i2) 0) 0) (m.getD ((permRow r).getD ((2 * i2) + 1) 0) 0)).a)) = _ from List.length_set.trans hvl2))))
              rw [← e1380] at b1366
              have b1382 : Blk w1365 g2 48 (u32Vals h) := ((((((((b957.ext hx1007).grownN hg1014 (by omega)).ext hx1224).ext hx1318).grownN hg1340 (by omega)).grownN hg1349 (by omega)).grownN hg1358 (by omega)).grownN hg1367 (by omega))
              have b1383 : Blk w1365 g10 48 (u32Vals (List.replicate 8 0)) := ((((((((b958.ext hx1007).grownN hg1014 (by omega)).ext hx1224).ext hx1318).grownN hg1340 (by omega)).grownN hg1349 (by omega)).grownN hg1358 (by omega)).grownN hg1367 (by omega))
              have b1384 : Blk w1365 g143 48 (u32Vals iv) := ((((((((b961.ext hx1007).grownN hg1014 (by omega)).ext hx1224).ext hx1318).grownN hg1340 (by omega)).grownN hg1349 (by omega)).grownN hg1358 (by omega)).grownN hg1367 (by omega))
              refine ⟨⟨(i2 + 1), v1379, ((((((((((((((((((hF1378.nil.cons (q_get hF1378 (t := 16) rfl (by first | rfl | (congr 1; omega) | (congr 1; done)))).cons (q_get hF1378 (t := 79) rfl rfl)).cons (q_get hF1378 (t := 15) rfl rfl)).cons (q_get hF1378 (t := 14) rfl rfl)).cons (q_get hF1378 (t := 72) rfl rfl)).cons (q_get hF1378 (t := 45) rfl rfl)).cons (q_get hF1378 (t := 13) rfl rfl)).cons (q_get hF1378 (t := 12) rfl rfl)).cons (q_get hF1378 (t := 11) rfl rfl)).cons (q_get hF1378 (t := 22) rfl rfl)).cons (q_get hF1378 (t := 10) rfl rfl)).cons (q_get hF1378 (t := 9) rfl rfl)).cons (q_get hF1378 (t := 8) rfl rfl)).cons (q_get hF1378 (t := 4) rfl rfl)).cons (q_get hF1378 (t := 3) rfl rfl)).cons (q_get hF1378 (t := 2) rfl rfl)).cons (q_get hF1378 (t := 1) rfl rfl)).cons (q_get hF1378 (t := 0) rfl rfl)), (by omega), (mixTo_r1 (by omega) hp956 rfl rfl rfl rfl rfl e1380), ((((((((((Ext.refl w).trans hx954).trans hx1007).grownN hg1014 (by omega)).trans hx1224).trans hx1318).grownN hg1340 (by omega)).grownN hg1349 (by omega)).grownN hg1358 (by omega)).grownN hg1367 (by omega)), b1382, b1383, b1371, b1366, b1384, b1370, (by omega)⟩, ?_⟩
              rw [hF1378.get (t := 16) rfl, hL964.get (t := 16) rfl]; simp [intOf] <;> omega
          · skip
            refine wp_cond_false (c_false hF977 rfl (decide_eq_false hc978)) ?_
            refine wp_exit ?_
            refine exit_then ?_
            refine exit_then ?_
            refine exit_here ?_
            refine hK947 _ _ ?_
            clear hK947
            refine wp_region_lit ?_
            refine wpl_op (i := 0) rfl (o_val (v := (.int .i64 (r : Nat))) hF977 rfl rfl rfl rfl (rn_move (hF977.get rfl)) ?_)
            intro a1385 hF1386; clear hF977
            refine wpl_op (i := 1) rfl (o_val (v := (.int .i64 (r + 1 : Nat))) hF1386 rfl rfl rfl rfl (rn_addN (a := r) (b := 1) (hF1386.get rfl) rfl (by omega)) ?_)
            intro a1387 hF1388; clear hF1386
            refine wpl_op (i := 2) rfl (o_val (v := (.int .i64 (r + 1 : Nat))) hF1388 rfl rfl rfl rfl (rn_assign (hF1388.get rfl)) ?_)
            intro a1389 hF1390; clear hF1388
            refine wpList_nil ?_
            refine ⟨⟨(r + 1), v2, ((((((((((((((((hF1390.nil.cons (q_get hF1390 (t := 15) rfl (by first | rfl | (congr 1; omega) | (congr 1; done)))).cons (q_get hF1390 (t := 14) rfl rfl)).cons (q_get hF1390 (t := 72) rfl rfl)).cons (q_get hF1390 (t := 45) rfl rfl)).cons (q_get hF1390 (t := 13) rfl rfl)).cons (q_get hF1390 (t := 12) rfl rfl)).cons (q_get hF1390 (t := 11) rfl rfl)).cons (q_get hF1390 (t := 22) rfl rfl)).cons (q_get hF1390 (t := 10) rfl rfl)).cons (q_get hF1390 (t := 9) rfl rfl)).cons (q_get hF1390 (t := 8) rfl rfl)).cons (q_get hF1390 (t := 4) rfl rfl)).cons (q_get hF1390 (t := 3) rfl rfl)).cons (q_get hF1390 (t := 2) rfl rfl)).cons (q_get hF1390 (t := 1) rfl rfl)).cons (q_get hF1390 (t := 0) rfl rfl)), (by omega), (roundTo_step (by omega) hp924 (by rw [hp956, show i2 = 8 by omega])), ((Ext.refl w).trans hx954), b957, b958, b959, b960, b961, b962, (by omega)⟩, ?_⟩
            rw [hF1390.get (t := 15) rfl, hL932.get (t := 15) rfl]; simp [intOf] <;> omega
        · skip
          refine wp_cond_false (c_false hF945 rfl (decide_eq_false hc946)) ?_
          refine wp_exit ?_
          refine exit_then ?_
          refine exit_then ?_
          refine exit_here ?_
          refine hK907 _ _ ?_
          clear hK907
          refine wp_seq_k (fun K1391 hK1391 => ?_)
          refine wp_seq_k (fun K1392 hK1392 => ?_)
          refine wp_region_lit ?_
          refine wpl_op (i := 0) rfl (o_val (v := (.int .i64 0)) hF945 rfl rfl rfl rfl (rn_assign rfl) ?_)
          intro a1393 hF1394; clear hF945
          refine wpList_nil ?_
          refine hK1392 _ _ ?_
          clear hK1392
          refine wp_block ?_
          have hv10 : v = roundTo (words b) (begin_ h n last) 10 := by rw [hp924, hv1, hmw, show r = 10 from by omega]
          refine wp_loop (fun a' W => ∃ (k5 : Nat) (hh2 : List UInt32), Sl 182 [(0, (.agg (u32Vals h).toArray)), (1, (.slice A 64 c)), (2, (.int .u64 (n.toNat : Nat))), (3, (.bool last)), (4, (.pointer (some ⟨g2, 0, none⟩))), (8, (.pointer (some ⟨g10, 0, none⟩))), (9, (.pointer (some ⟨g21, 0, none⟩))), (10, (.int .i64 (k : Nat))), (22, (.bool (decide (((k : Nat) : Int) < (64 : Int))))), (11, (.pointer (some ⟨g125, 0, none⟩))), (12, (.pointer (some ⟨g143, 0, none⟩))), (13, (.int .i64 (k1 : Nat))), (45, (.bool (decide (((k1 : Nat) : Int) < (8 : Int))))), (72, (.bool last)), (14, (.pointer (some ⟨g895, 0, none⟩))), (15, (.int .i64 (r : Nat))), (79, (.bool (decide (((r : Nat) : Int) < (10 : Int))))), (19, (.int .i64 (k5 : Nat)))] a' ∧ k5 ≤ 8 ∧ hh2 = closeTo v h k5 ∧ Ext w W ∧ Blk W g2 48 (u32Vals hh2) ∧ Blk W g10 48 (u32Vals (List.replicate 8 0)) ∧ Blk W g21 62 (u32Vals m) ∧ Blk W g125 62 (u32Vals v) ∧ Blk W g143 48 (u32Vals iv) ∧ Blk W g895 70 (intVals permI) ∧ w920.heap.size ≤ W.heap.size) (fun a' _ => 8 - (intOf (a'.eval (.tmp 19))).toNat) ⟨0, h, ((((((((((((((((((hF1394.nil.cons (q_get hF1394 (t := 19) rfl (by first | rfl | (congr 1; omega) | (congr 1; done)))).cons (q_get hF1394 (t := 79) rfl rfl)).cons (q_get hF1394 (t := 15) rfl rfl)).cons (q_get hF1394 (t := 14) rfl rfl)).cons (q_get hF1394 (t := 72) rfl rfl)).cons (q_get hF1394 (t := 45) rfl rfl)).cons (q_get hF1394 (t := 13) rfl rfl)).cons (q_get hF1394 (t := 12) rfl rfl)).cons (q_get hF1394 (t := 11) rfl rfl)).cons (q_get hF1394 (t := 22) rfl rfl)).cons (q_get hF1394 (t := 10) rfl rfl)).cons (q_get hF1394 (t := 9) rfl rfl)).cons (q_get hF1394 (t := 8) rfl rfl)).cons (q_get hF1394 (t := 4) rfl rfl)).cons (q_get hF1394 (t := 3) rfl rfl)).cons (q_get hF1394 (t := 2) rfl rfl)).cons (q_get hF1394 (t := 1) rfl rfl)).cons (q_get hF1394 (t := 0) rfl rfl)), (by omega), rfl, ((Ext.refl w).trans hx922), b925, b926, b927, b928, b929, b930, (Nat.le_refl _)⟩ ?_
          clear hF1394
          rintro a1395 w1396 ⟨k5, hh2, hF1397, hp1399, hp1400, hx1398, b1401, b1402, b1403, b1404, b1405, b1406, hf1407⟩
          have hL1408 := hF1397
          have z1409 := hx1398.size
          have z1410 := b1401.lt
          have z1411 := b1402.lt
          have z1412 := b1403.lt
          have z1413 := b1404.lt
          have z1414 := b1405.lt
          have z1415 := b1406.lt
          have hhl : hh2.length = 8 := by rw [hp1400]; exact closeTo_len hh
          refine wp_seq_k (fun K1416 hK1416 => ?_)
          refine wp_seq_k (fun K1417 hK1417 => ?_)
          refine wp_region_lit ?_
          refine wpl_op (i := 0) rfl (o_val (v := (.int .i64 (k5 : Nat))) hF1397 rfl rfl rfl rfl (rn_move (hF1397.get rfl)) ?_)
          intro a1418 hF1419; clear hF1397
          refine wpl_op (i := 1) rfl (o_val (v := (.bool (decide (((k5 : Nat) : Int) < (8 : Int))))) hF1419 rfl rfl rfl rfl (rn_lss (hF1419.get rfl) rfl) ?_)
          intro a1420 hF1421; clear hF1419
          refine wpList_nil ?_
          refine hK1417 _ _ ?_
          clear hK1417
          by_cases hc1422 : ((k5 : Nat) : Int) < (8 : Int)
          · skip
            refine wp_cond_true (c_true hF1421 rfl (decide_eq_true hc1422)) ?_
            refine wp_skip ?_
            refine hK1416 _ _ ?_
            clear hK1416
            refine wp_seq_k (fun K1423 hK1423 => ?_)
            refine wp_block ?_
            have hx1425 : ∃ W, w1396.drew = W ∧ Ext w1396 W := ⟨_, rfl, (Ext.refl _).drew⟩
            obtain ⟨w1424, e1426, hx1425⟩ := hx1425
            have z1427 := hx1425.size
            refine any_start (fun W => Ext w1424 W ∧ Blk W g2 48 (u32Vals hh2) ∧ Blk W g125 62 (u32Vals v)) (fun i => i == 14) 15 #[false, false, false, false, false, false, false, false, false, false, false, false, false, false, false] rfl rfl rfl ?_
            rw [e1426]; clear e1426
            refine any_pure (i := 0) (v := (.int .i64 (k5 : Nat))) hF1421 (by decide +kernel) (by decide +kernel) rfl rfl rfl rfl (fun _ _ _ _ h => h) rfl (fun W => (rn_move (hF1421.get rfl))) ?_
            intro a1428 hF1429; clear hF1421
            refine any_pure (i := 1) (v := (.int .i64 (k5 : Nat))) hF1429 (by decide +kernel) (by decide +kernel) rfl rfl rfl rfl (fun _ _ _ _ h => h) rfl (fun W => (rn_move (hF1429.get rfl))) ?_
            intro a1430 hF1431; clear hF1429
            refine any_pure (i := 2) (v := (.pointer (some ⟨g2, 0 + k5, none⟩))) hF1431 (by decide +kernel) (by decide +kernel) rfl rfl rfl rfl (fun _ _ _ _ h => h) rfl (fun W => (rn_indexArr Tryd.underlying48 (by kernel_rfl : (Tryd.prog.info? 47).map (·.size) = some 1) (hF1431.get rfl) (hF1431.get rfl) (by omega : (0 : Int) ≤ (k5 : Nat)) (by omega : ((k5 : Nat) : Int) < ((8 : Nat) : Int)))) ?_
            intro a1432 hF1433; clear hF1431
            have b1435 : Blk w1424 g2 48 (u32Vals hh2) := (b1401.ext hx1425)
            have b1436 : Blk w1424 g125 62 (u32Vals v) := (b1404.ext hx1425)
            have hS1434 : Ext w1424 w1424 ∧ Blk w1424 g2 48 (u32Vals hh2) ∧ Blk w1424 g125 62 (u32Vals v) := ⟨(Ext.refl w1424), b1435, b1436⟩
            refine any_val (i := 3) (v := (.int .u32 ((hh2.getD k5 0).toNat : Nat))) hF1433 (by decide +kernel) (by decide +kernel) rfl rfl rfl rfl (fun _ _ _ _ h => h) rfl hS1434 (fun W hW => (rn_load (isAgg_no Tryd.underlying47 rfl) (hF1433.get rfl) (blk_word hW.2.1 (by omega) (by have := (show List.length hh2 = _ from hhl); omega)))) ?_
            intro a1437 hF1438; clear hF1433
            refine any_pure (i := 4) (v := (.int .i64 (k5 : Nat))) hF1438 (by decide +kernel) (by decide +kernel) rfl rfl rfl rfl (fun _ _ _ _ h => h) rfl (fun W => (rn_move (hF1438.get rfl))) ?_
            intro a1439 hF1440; clear hF1438
            refine any_pure (i := 5) (v := (.pointer (some ⟨g125, 0 + k5, none⟩))) hF1440 (by decide +kernel) (by decide +kernel) rfl rfl rfl rfl (fun _ _ _ _ h => h) rfl (fun W => (rn_indexArr Tryd.underlying62 (by kernel_rfl : (Tryd.prog.info? 47).map (·.size) = some 1) (hF1440.get rfl) (hF1440.get rfl) (by omega : (0 : Int) ≤ (k5 : Nat)) (by omega : ((k5 : Nat) : Int) < ((16 : Nat) : Int)))) ?_
            intro a1441 hF1442; clear hF1440
            refine any_val (i := 6) (v := (.int .u32 ((v.getD k5 0).toNat : Nat))) hF1442 (by decide +kernel) (by decide +kernel) rfl rfl rfl rfl (fun _ _ _ _ h => h) rfl hS1434 (fun W hW => (rn_load (isAgg_no Tryd.underlying47 rfl) (hF1442.get rfl) (blk_word hW.2.2 (by omega) (by have := (show List.length v = _ from hvl); omega)))) ?_
            intro a1443 hF1444; clear hF1442
            refine any_pure (i := 7) (v := (.int .u32 (((hh2.getD k5 0) ^^^ (v.getD k5 0)).toNat : Nat))) hF1444 (by decide +kernel) (by decide +kernel) rfl rfl rfl rfl (fun _ _ _ _ h => h) rfl (fun W => (rn_xor32 (a := (hh2.getD k5 0)) (b := (v.getD k5 0)) (hF1444.get rfl) (hF1444.get rfl))) ?_
            intro a1445 hF1446; clear hF1444
            refine any_pure (i := 8) (v := (.int .i64 (k5 : Nat))) hF1446 (by decide +kernel) (by decide +kernel) rfl rfl rfl rfl (fun _ _ _ _ h => h) rfl (fun W => (rn_move (hF1446.get rfl))) ?_
            intro a1447 hF1448; clear hF1446
            refine any_pure (i := 9) (v := (.int .i64 (8 + k5 : Nat))) hF1448 (by decide +kernel) (by decide +kernel) rfl rfl rfl rfl (fun _ _ _ _ h => h) rfl (fun W => (rn_addN (a := 8) (b := k5) rfl (hF1448.get rfl) (by omega))) ?_
            intro a1449 hF1450; clear hF1448
            refine any_pure (i := 10) (v := (.pointer (some ⟨g125, 0 + (8 + k5), none⟩))) hF1450 (by decide +kernel) (by decide +kernel) rfl rfl rfl rfl (fun _ _ _ _ h => h) rfl (fun W => (rn_indexArr Tryd.underlying62 (by kernel_rfl : (Tryd.prog.info? 47).map (·.size) = some 1) (hF1450.get rfl) (hF1450.get rfl) (by omega : (0 : Int) ≤ (8 + k5 : Nat)) (by omega : ((8 + k5 : Nat) : Int) < ((16 : Nat) : Int)))) ?_
            intro a1451 hF1452; clear hF1450
            refine any_val (i := 11) (v := (.int .u32 ((v.getD (8 + k5) 0).toNat : Nat))) hF1452 (by decide +kernel) (by decide +kernel) rfl rfl rfl rfl (fun _ _ _ _ h => h) rfl hS1434 (fun W hW => (rn_load (isAgg_no Tryd.underlying47 rfl) (hF1452.get rfl) (blk_word hW.2.2 (by omega) (by have := (show List.length v = _ from hvl); omega)))) ?_
            intro a1453 hF1454; clear hF1452
            refine any_pure (i := 12) (v := (.int .u32 ((((hh2.getD k5 0) ^^^ (v.getD k5 0)) ^^^ (v.getD (8 + k5) 0)).toNat : Nat))) hF1454 (by decide +kernel) (by decide +kernel) rfl rfl rfl rfl (fun _ _ _ _ h => h) rfl (fun W => (rn_xor32 (a := ((hh2.getD k5 0) ^^^ (v.getD k5 0))) (b := (v.getD (8 + k5) 0)) (hF1454.get rfl) (hF1454.get rfl))) ?_
            intro a1455 hF1456; clear hF1454
            refine any_pure (i := 13) (v := (.pointer (some ⟨g2, 0 + k5, none⟩))) hF1456 (by decide +kernel) (by decide +kernel) rfl rfl rfl rfl (fun _ _ _ _ h => h) rfl (fun W => (rn_indexArr Tryd.underlying48 (by kernel_rfl : (Tryd.prog.info? 47).map (·.size) = some 1) (hF1456.get rfl) (hF1456.get rfl) (by omega : (0 : Int) ≤ (k5 : Nat)) (by omega : ((k5 : Nat) : Int) < ((8 : Nat) : Int)))) ?_
            intro a1457 hF1458; clear hF1456
            refine any_one (i := 14) (by decide +kernel) rfl ?_
            refine o_store1 (new := (u32Vals (hh2.set k5 (((hh2.getD k5 0) ^^^ (v.getD k5 0)) ^^^ (v.getD (8 + k5) 0))))) hF1458 rfl rfl rfl rfl (hF1458.get rfl) (hF1458.get rfl) b1435 (by kernel_rfl : (Tryd.prog.info? 47).map (·.size) = some 1) (by rw [u32Vals_len hhl]; omega) rfl (u32Vals_set (by omega)) ?_
            intro w1459 b1460 hg1461; have z1462 := hg1461.size
            refine ⟨fun h => absurd h (by decide), ?_⟩
            refine any_nil (by decide +kernel) ?_
            refine hK1423 _ _ ?_
            clear hK1423
            have hF1463 := (((((((((((((((((((hF1458.nil.cons (hF1458.get (t := 164) (v := (.bool (decide (((k5 : Nat) : Int) < (8 : Int))))) rfl)).cons (hF1458.get (t := 19) (v := (.int .i64 (k5 : Nat))) rfl)).cons (hF1458.get (t := 79) (v := (.bool (decide (((r : Nat) : Int) < (10 : Int))))) rfl)).cons (hF1458.get (t := 15) (v := (.int .i64 (r : Nat))) rfl)).cons (hF1458.get (t := 14) (v := (.pointer (some ⟨g895, 0, none⟩))) rfl)).cons (hF1458.get (t := 72) (v := (.bool last)) rfl)).cons (hF1458.get (t := 45) (v := (.bool (decide (((k1 : Nat) : Int) < (8 : Int))))) rfl)).cons (hF1458.get (t := 13) (v := (.int .i64 (k1 : Nat))) rfl)).cons (hF1458.get (t := 12) (v := (.pointer (some ⟨g143, 0, none⟩))) rfl)).cons (hF1458.get (t := 11) (v := (.pointer (some ⟨g125, 0, none⟩))) rfl)).cons (hF1458.get (t := 22) (v := (.bool (decide (((k : Nat) : Int) < (64 : Int))))) rfl)).cons (hF1458.get (t := 10) (v := (.int .i64 (k : Nat))) rfl)).cons (hF1458.get (t := 9) (v := (.pointer (some ⟨g21, 0, none⟩))) rfl)).cons (hF1458.get (t := 8) (v := (.pointer (some ⟨g10, 0, none⟩))) rfl)).cons (hF1458.get (t := 4) (v := (.pointer (some ⟨g2, 0, none⟩))) rfl)).cons (hF1458.get (t := 3) (v := (.bool last)) rfl)).cons (hF1458.get (t := 2) (v := (.int .u64 (n.toNat : Nat))) rfl)).cons (hF1458.get (t := 1) (v := (.slice A 64 c)) rfl)).cons (hF1458.get (t := 0) (v := (.agg (u32Vals h).toArray)) rfl))
            clear hF1458
            refine wp_region_lit ?_
            refine wpl_op (i := 0) rfl (o_val (v := (.int .i64 (k5 : Nat))) hF1463 rfl rfl rfl rfl (rn_move (hF1463.get rfl)) ?_)
            intro a1464 hF1465; clear hF1463
            refine wpl_op (i := 1) rfl (o_val (v := (.int .i64 (k5 + 1 : Nat))) hF1465 rfl rfl rfl rfl (rn_addN (a := k5) (b := 1) (hF1465.get rfl) rfl (by omega)) ?_)
            intro a1466 hF1467; clear hF1465
            refine wpl_op (i := 2) rfl (o_val (v := (.int .i64 (k5 + 1 : Nat))) hF1467 rfl rfl rfl rfl (rn_assign (hF1467.get rfl)) ?_)
            intro a1468 hF1469; clear hF1467
            refine wpList_nil ?_
            obtain ⟨v1470, e1471⟩ : ∃ z, z = hh2.set k5 (((hh2.getD k5 0) ^^^ (v.getD k5 0)) ^^^ (v.getD (8 + k5) 0)) := ⟨_, rfl⟩
            have hl1472 : v1470.length = 8 := (congrArg List.length e1471).trans (show List.length (hh2.set k5 (((hh2.getD k5 0) ^^^ (v.getD k5 0)) ^^^ (v.getD (8 + k5) 0))) = _ from List.length_set.trans hhl)
            rw [← e1471] at b1460
            have b1473 : Blk w1459 g10 48 (u32Vals (List.replicate 8 0)) := ((b1402.ext hx1425).grownN hg1461 (by omega))
            have b1474 : Blk w1459 g21 62 (u32Vals m) := ((b1403.ext hx1425).grownN hg1461 (by omega))
            have b1475 : Blk w1459 g125 62 (u32Vals v) := (b1436.grownN hg1461 (by omega))
            have b1476 : Blk w1459 g143 48 (u32Vals iv) := ((b1405.ext hx1425).grownN hg1461 (by omega))
            have b1477 : Blk w1459 g895 70 (intVals permI) := ((b1406.ext hx1425).grownN hg1461 (by omega))
            refine ⟨⟨(k5 + 1), v1470, ((((((((((((((((((hF1469.nil.cons (q_get hF1469 (t := 19) rfl (by first | rfl | (congr 1; omega) | (congr 1; done)))).cons (q_get hF1469 (t := 79) rfl rfl)).cons (q_get hF1469 (t := 15) rfl rfl)).cons (q_get hF1469 (t := 14) rfl rfl)).cons (q_get hF1469 (t := 72) rfl rfl)).cons (q_get hF1469 (t := 45) rfl rfl)).cons (q_get hF1469 (t := 13) rfl rfl)).cons (q_get hF1469 (t := 12) rfl rfl)).cons (q_get hF1469 (t := 11) rfl rfl)).cons (q_get hF1469 (t := 22) rfl rfl)).cons (q_get hF1469 (t := 10) rfl rfl)).cons (q_get hF1469 (t := 9) rfl rfl)).cons (q_get hF1469 (t := 8) rfl rfl)).cons (q_get hF1469 (t := 4) rfl rfl)).cons (q_get hF1469 (t := 3) rfl rfl)).cons (q_get hF1469 (t := 2) rfl rfl)).cons (q_get hF1469 (t := 1) rfl rfl)).cons (q_get hF1469 (t := 0) rfl rfl)), (by omega), (closeTo_r hp1400 e1471), ((((Ext.refl w).trans hx1398).trans hx1425).grownN hg1461 (by omega)), b1460, b1473, b1474, b1475, b1476, b1477, (by omega)⟩, ?_⟩
            rw [hF1469.get (t := 19) rfl, hL1408.get (t := 19) rfl]; simp [intOf] <;> omega
          · skip
            refine wp_cond_false (c_false hF1421 rfl (decide_eq_false hc1422)) ?_
            refine wp_exit ?_
            refine exit_then ?_
            refine exit_then ?_
            refine exit_here ?_
            refine hK1391 _ _ ?_
            clear hK1391
            refine wp_seq_k (fun K1478 hK1478 => ?_)
            refine wp_region_lit ?_
            refine wpl_op (i := 0) rfl (o_val (v := (.agg (u32Vals hh2).toArray)) hF1421 rfl rfl rfl rfl (rn_loadBlk (hF1421.get rfl) b1401 Tryd.underlying48 rfl ((by kernel_rfl : (Tryd.prog.info? 48).map (·.size) = some 8).trans (congrArg some (u32Vals_len hhl).symm))) ?_)
            intro a1479 hF1480; clear hF1421
            refine wpl_op (i := 1) rfl (o_store (cells := (u32Vals hh2)) hF1480 rfl rfl rfl rfl (hF1480.get rfl) (hF1480.get rfl) b1402 ((by kernel_rfl : (Tryd.prog.info? 48).map (·.size) = some 8).trans (congrArg some (u32Vals_len hhl).symm)) ((u32Vals_len (show List.length (List.replicate 8 0) = _ from List.length_replicate)).trans (u32Vals_len hhl).symm) (u32Vals_one _) ?_)
            intro w1481 b1482 hg1483; have z1484 := hg1483.size
            refine wpList_nil ?_
            refine hK1478 _ _ ?_
            clear hK1478
            refine wp_ret ?_
            refine retC hF1480 rfl rfl b1482 Tryd.underlying48 rfl ((by kernel_rfl : (Tryd.prog.info? 48).map (·.size) = some 8).trans (congrArg some (u32Vals_len hhl).symm)) ?_
            have hk8 : k5 = 8 := by omega
            subst hk8
            exact ⟨by rw [absorb_eq hv10 hp1400], (((Ext.refl w).trans hx1398).grownN hg1483 (by omega))⟩

theorem rblock_at (h : List UInt32) (b : List UInt8) (n : UInt64) (last : Bool) {v : Value} (w : World) (hh : h.length = 8) (hf : Fl S w 1 v 64 (byteVals b)) : Calls Tryd.prog 26 #[.agg (u32Vals h).toArray, v, .int .u64 (n.toNat : Nat), .bool last] w (fun e w' => e = .returned (.agg (u32Vals (absorb h b n last)).toArray) ∧ Ext w w') := by
  obtain ⟨A, c, rfl, _⟩ := hf.form
  exact rblock_any h A c b n last w hh hf

end Go.Proofs.YtgodliookpgliaaDoor
