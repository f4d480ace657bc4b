/- Contract of the reference's block. -/
import Derived.Test.YtgodliookpgliaaDoorProg
import Derived.Test.YtgodliookpgliaaDoorRefA3
import Derived.KernelRfl
namespace Go.Proofs.YtgodliookpgliaaDoor
open Go.RowKit

variable {S S' : Nat → Prop}

def vTo (h : List UInt32) (k : Nat) : List UInt32 := (h.take k ++ List.replicate (8 - k) 0) ++ (iv.take k ++ List.replicate (8 - k) 0)
theorem vTo_len {h : List UInt32} {k : Nat} (hh : h.length = 8) (hk : k ≤ 8) : (vTo h k).length = 16 := by simp [vTo, hh, iv_len]; omega
theorem half_set {a : List UInt32} {k : Nat} (ha : a.length = 8) (hk : k < 8) : (a.take k ++ List.replicate (8 - k) (0 : UInt32)).set k (a.getD k 0) = a.take (k + 1) ++ List.replicate (8 - (k + 1)) 0 := by
  rw [List.set_append_right _ _ (by simp; omega), List.length_take, Nat.min_eq_left (by omega), Nat.sub_self, show 8 - k = (8 - (k + 1)) + 1 by omega, List.replicate_succ, List.set_cons_zero, List.take_add_one, List.getD_eq_getElem?_getD, List.getElem?_eq_getElem (by omega), List.append_assoc]
  rfl
theorem vTo_step {h v v' : List UInt32} {k : Nat} (hh : h.length = 8) (hk : k < 8) (hv : v = vTo h k) (he : v' = (v.set k (h.getD k 0)).set (8 + k) (iv.getD k 0)) : v' = vTo h (k + 1) := by
  have h1 : (h.take k ++ List.replicate (8 - k) (0 : UInt32)).length = 8 := by simp [hh]; omega
  rw [he, hv, vTo, List.set_append_left _ _ (by omega), half_set hh hk, List.set_append_right _ _ (by simp [hh]; omega)]
  have h2 : (h.take (k + 1) ++ List.replicate (8 - (k + 1)) (0 : UInt32)).length = 8 := by simp [hh]; omega
  rw [h2, Nat.add_sub_cancel_left, half_set iv_len hk]; rfl
theorem vTo_start (h : List UInt32) : vTo h 0 = List.replicate 16 0 := rfl
theorem vTo_done {h v : List UInt32} (hh : h.length = 8) (hv : v = vTo h 8) : v = h ++ iv := by rw [hv, vTo, List.take_of_length_le (by omega), List.take_of_length_le (by rw [iv_len]; omega)]; simp
theorem xor_all (a : UInt32) : a ^^^ 4294967295 = ~~~ a := by
  rw [UInt32.xor_comm]
  exact UInt32.toBitVec_inj.1 (BitVec.allOnes_xor (x := a.toBitVec))
theorem mixTo_r1 {m : List UInt32} {r : Nat} {v0 v v' : List UInt32} {k a b c d : Nat} {q : Four} (hk : k < 4) (hv : v = mixTo m (permRow r) v0 k) (ha : a = k % 4) (hb : b = 4 + k % 4) (hc : c = 8 + k % 4) (hd : d = 12 + k % 4)
    (hq : q = mix4 (v.getD a 0) (v.getD b 0) (v.getD c 0) (v.getD d 0) (m.getD ((permRow r).getD (2 * k) 0) 0) (m.getD ((permRow r).getD (2 * k + 1) 0) 0)) (he : v' = (((v.set a q.a).set b q.b).set c q.c).set d q.d) : v' = mixTo m (permRow r) v0 (k + 1) := by
  have h0 : k % 4 = k := Nat.mod_eq_of_lt hk
  rw [h0] at ha hb hc hd
  subst ha hb hc hd hq
  rw [mixTo, foldl_range, ← mixTo, ← hv, he]
  simp [mixAt, hk, mixv, put4, at_]
theorem mixTo_r2 {m : List UInt32} {r : Nat} {v0 v v' : List UInt32} {k a b c d : Nat} {q : Four} (hk : ¬ k < 4) (hv : v = mixTo m (permRow r) v0 k) (ha : a = k % 4) (hb : b = 4 + (k % 4 + 1) % 4) (hc : c = 8 + (k % 4 + 2) % 4) (hd : d = 12 + (k % 4 + 3) % 4)
    (hq : q = mix4 (v.getD a 0) (v.getD b 0) (v.getD c 0) (v.getD d 0) (m.getD ((permRow r).getD (2 * k) 0) 0) (m.getD ((permRow r).getD (2 * k + 1) 0) 0)) (he : v' = (((v.set a q.a).set b q.b).set c q.c).set d q.d) : v' = mixTo m (permRow r) v0 (k + 1) := by
  subst ha hb hc hd hq
  rw [mixTo, foldl_range, ← mixTo, ← hv, he]
  simp only [mixAt, hk, if_false, mixv, put4, at_]
theorem mixTo_r {m : List UInt32} {r : Nat} {v0 v v' : List UInt32} {k a b c d : Nat} {q : Four} (hv : v = mixTo m (permRow r) v0 k)
    (hp : (k < 4 ∧ a = k % 4 ∧ b = 4 + k % 4 ∧ c = 8 + k % 4 ∧ d = 12 + k % 4) ∨ (¬ k < 4 ∧ a = k % 4 ∧ b = 4 + (k % 4 + 1) % 4 ∧ c = 8 + (k % 4 + 2) % 4 ∧ d = 12 + (k % 4 + 3) % 4))
    (hq : q = mix4 (v.getD a 0) (v.getD b 0) (v.getD c 0) (v.getD d 0) (m.getD ((permRow r).getD (2 * k) 0) 0) (m.getD ((permRow r).getD (2 * k + 1) 0) 0)) (he : v' = (((v.set a q.a).set b q.b).set c q.c).set d q.d) : v' = mixTo m (permRow r) v0 (k + 1) := by
  rcases hp with ⟨hk, ha, hb, hc, hd⟩ | ⟨hk, ha, hb, hc, hd⟩
  · exact mixTo_r1 hk hv ha hb hc hd hq he
  · exact mixTo_r2 hk hv ha hb hc hd hq he
theorem closeTo_r {v h0 h h' : List UInt32} {k : Nat} (hh : h = closeTo v h0 k) (he : h' = h.set k ((h.getD k 0 ^^^ v.getD k 0) ^^^ v.getD (8 + k) 0)) : h' = closeTo v h0 (k + 1) := by
  rw [he, hh, closeTo, closeTo, foldl_range, ← closeTo, close_, at_, at_, at_]

set_option maxRecDepth 100000 in
set_option maxHeartbeats 1000000 in
theorem rblock_any (h : List UInt32) (A : Option Addr) (c : Nat) (b : List UInt8) (n : UInt64) (last : Bool) (w : World) (hh : h.length = 8) (hf : Fl S w 1 (.slice A 64 c) 64 (byteVals b)) :
    Calls Tryd.prog 26 #[.agg (u32Vals h).toArray, .slice A 64 c, .int .u64 (n.toNat : Nat), .bool last] w (fun e w' => e = .returned (.agg (u32Vals (absorb h b n last)).toArray) ∧ Ext w w') := by
  have hc : Fl (Clip S w) w 1 (.slice A 64 c) 64 (byteVals b) := hf.clip
  have hcc := (Fl.cel hc).2.1
  have hbl := Fl.blen hf
  refine calls_enter (l := [(.agg (u32Vals h).toArray), (.slice A 64 c), (.int .u64 (n.toNat : Nat)), (.bool last)]) Tryd.func26 rfl rfl rfl (fun aA hF => ?_)
  refine wp_seq_k (fun K1 hK1 => ?_)
  refine wp_region_lit ?_
  refine wpl_op (i := 0) rfl (o_new (fun g => (.pointer (some ⟨g, 0, none⟩))) (u32Vals h) 48 hF rfl rfl rfl rfl (rn_box (hF.get rfl) (box_arr _)) ?_)
  intro g2 w3 a8 hF9 z6 z7 b4 hx5; clear hF
  refine wpl_op (i := 1) rfl (o_new (fun g => (.pointer (some ⟨g, 0, none⟩))) (u32Vals (List.replicate 8 0)) 48 hF9 rfl rfl rfl rfl (by kernel_rfl) ?_)
  intro g10 w11 a16 hF17 z14 z15 b12 hx13; clear hF9
  refine wpList_nil ?_
  refine hK1 _ _ ?_
  clear hK1
  refine wp_seq_k (fun K18 hK18 => ?_)
  refine wp_region_lit ?_
  refine wpl_op (i := 0) rfl (o_val (v := (.agg (u32Vals (List.replicate 16 0)).toArray)) hF17 rfl rfl rfl rfl (rn_build parts0 (by kernel_rfl)) ?_)
  intro a19 hF20; clear hF17
  refine wpl_op (i := 1) rfl (o_new (fun g => (.pointer (some ⟨g, 0, none⟩))) (u32Vals (List.replicate 16 0)) 62 hF20 rfl rfl rfl rfl (by kernel_rfl) ?_)
  intro g21 w22 a27 hF28 z25 z26 b23 hx24; clear hF20
  refine wpl_op (i := 2) rfl (o_store (cells := (u32Vals (List.replicate 16 0))) hF28 rfl rfl rfl rfl (hF28.get rfl) (hF28.get rfl) b23 ((by kernel_rfl : (Tryd.prog.info? 62).map (·.size) = some 16).trans (congrArg some (u32Vals_len (show List.length (List.replicate 16 0) = _ from List.length_replicate)).symm)) ((u32Vals_len (show List.length (List.replicate 16 0) = _ from List.length_replicate)).trans (u32Vals_len (show List.length (List.replicate 16 0) = _ from List.length_replicate)).symm) (u32Vals_one _) ?_)
  intro w29 b30 hg31; have z32 := hg31.size
  refine wpList_nil ?_
  refine hK18 _ _ ?_
  clear hK18
  refine wp_seq_k (fun K33 hK33 => ?_)
  refine wp_seq_k (fun K34 hK34 => ?_)
  refine wp_region_lit ?_
  refine wpl_op (i := 0) rfl (o_val (v := (.int .i64 0)) hF28 rfl rfl rfl rfl (rn_assign rfl) ?_)
  intro a35 hF36; clear hF28
  refine wpList_nil ?_
  refine hK34 _ _ ?_
  clear hK34
  refine wp_block ?_
  have b37 : Blk w29 g2 48 (u32Vals h) := (((b4.ext hx13).ext hx24).grownN hg31 (by omega))
  have b38 : Blk w29 g10 48 (u32Vals (List.replicate 8 0)) := ((b12.ext hx24).grownN hg31 (by omega))
  refine wp_loop (fun a' W => ∃ (k : Nat) (m : List UInt32), Sl 182 [(0, (.agg (u32Vals h).toArray)), (1, (.slice A 64 c)), (2, (.int .u64 (n.toNat : Nat))), (3, (.bool last)), (4, (.pointer (some ⟨g2, 0, none⟩))), (8, (.pointer (some ⟨g10, 0, none⟩))), (9, (.pointer (some ⟨g21, 0, none⟩))), (10, (.int .i64 (k : Nat)))] a' ∧ k ≤ 64 ∧ m = wordsTo b k ∧ Ext w W ∧ Blk W g2 48 (u32Vals h) ∧ Blk W g10 48 (u32Vals (List.replicate 8 0)) ∧ Blk W g21 62 (u32Vals m) ∧ w29.heap.size ≤ W.heap.size) (fun a' _ => 64 - (intOf (a'.eval (.tmp 10))).toNat) ⟨0, (List.replicate 16 0), ((((((((hF36.nil.cons (q_get hF36 (t := 10) rfl (by first | rfl | (congr 1; omega) | (congr 1; done)))).cons (q_get hF36 (t := 9) rfl rfl)).cons (q_get hF36 (t := 8) rfl rfl)).cons (q_get hF36 (t := 4) rfl rfl)).cons (q_get hF36 (t := 3) rfl rfl)).cons (q_get hF36 (t := 2) rfl rfl)).cons (q_get hF36 (t := 1) rfl rfl)).cons (q_get hF36 (t := 0) rfl rfl)), (by omega), rfl, (((((Ext.refl w).trans hx5).trans hx13).trans hx24).grownN hg31 (by omega)), b37, b38, b30, (Nat.le_refl _)⟩ ?_
  clear hF36
  rintro a39 w40 ⟨k, m, hF41, hp43, hp44, hx42, b45, b46, b47, hf48⟩
  have hL49 := hF41
  have z50 := hx42.size
  have z51 := b45.lt
  have z52 := b46.lt
  have z53 := b47.lt
  have hm : m.length = 16 := by rw [hp44]; exact wordsTo_len _ _
  refine wp_seq_k (fun K54 hK54 => ?_)
  refine wp_seq_k (fun K55 hK55 => ?_)
  refine wp_region_lit ?_
  refine wpl_op (i := 0) rfl (o_val (v := (.int .i64 (k : Nat))) hF41 rfl rfl rfl rfl (rn_move (hF41.get rfl)) ?_)
  intro a56 hF57; clear hF41
  refine wpl_op (i := 1) rfl (o_val (v := (.bool (decide (((k : Nat) : Int) < (64 : Int))))) hF57 rfl rfl rfl rfl (rn_lss (hF57.get rfl) rfl) ?_)
  intro a58 hF59; clear hF57
  refine wpList_nil ?_
  refine hK55 _ _ ?_
  clear hK55
  by_cases hc60 : ((k : Nat) : Int) < (64 : Int)
  · skip
    refine wp_cond_true (c_true hF59 rfl (decide_eq_true hc60)) ?_
    refine wp_skip ?_
    refine hK54 _ _ ?_
    clear hK54
    refine wp_seq_k (fun K61 hK61 => ?_)
    refine wp_block ?_
    have hx63 : ∃ W, w40.drew = W ∧ Ext w40 W := ⟨_, rfl, (Ext.refl _).drew⟩
    obtain ⟨w62, e64, hx63⟩ := hx63
    have z65 := hx63.size
    refine any_start (fun W => Ext w62 W ∧ Blk W g21 62 (u32Vals m)) (fun i => i == 17) 18 #[false, false, false, false, false, false, false, false, false, false, false, false, false, false, false, false, false, false] rfl rfl rfl ?_
    rw [e64]; clear e64
    refine any_pure (i := 0) (v := (.int .i64 (k : Nat))) hF59 (by decide +kernel) (by decide +kernel) rfl rfl rfl rfl (fun _ _ _ _ h => h) rfl (fun W => (rn_move (hF59.get rfl))) ?_
    intro a66 hF67; clear hF59
    refine any_pure (i := 1) (v := (.int .i64 (k / 4 : Nat))) hF67 (by decide +kernel) (by decide +kernel) rfl rfl rfl rfl (fun _ _ _ _ h => h) rfl (fun W => (rn_quoN (a := k) (b := 4) (hF67.get rfl) rfl (by omega) (by omega))) ?_
    intro a68 hF69; clear hF67
    refine any_pure (i := 2) (v := (.int .i64 (k : Nat))) hF69 (by decide +kernel) (by decide +kernel) rfl rfl rfl rfl (fun _ _ _ _ h => h) rfl (fun W => (rn_move (hF69.get rfl))) ?_
    intro a70 hF71; clear hF69
    refine any_pure (i := 3) (v := (.int .i64 (k / 4 : Nat))) hF71 (by decide +kernel) (by decide +kernel) rfl rfl rfl rfl (fun _ _ _ _ h => h) rfl (fun W => (rn_quoN (a := k) (b := 4) (hF71.get rfl) rfl (by omega) (by omega))) ?_
    intro a72 hF73; clear hF71
    refine any_pure (i := 4) (v := (.pointer (some ⟨g21, 0 + (k / 4), none⟩))) hF73 (by decide +kernel) (by decide +kernel) rfl rfl rfl rfl (fun _ _ _ _ h => h) rfl (fun W => (rn_indexArr Tryd.underlying62 (by kernel_rfl : (Tryd.prog.info? 47).map (·.size) = some 1) (hF73.get rfl) (hF73.get rfl) (by omega : (0 : Int) ≤ (k / 4 : Nat)) (by omega : ((k / 4 : Nat) : Int) < ((16 : Nat) : Int)))) ?_
    intro a74 hF75; clear hF73
    have b77 : Blk w62 g21 62 (u32Vals m) := (b47.ext hx63)
    have hS76 : Ext w62 w62 ∧ Blk w62 g21 62 (u32Vals m) := ⟨(Ext.refl w62), b77⟩
    refine any_val (i := 5) (v := (.int .u32 ((m.getD (k / 4) 0).toNat : Nat))) hF75 (by decide +kernel) (by decide +kernel) rfl rfl rfl rfl (fun _ _ _ _ h => h) rfl hS76 (fun W hW => (rn_load (isAgg_no Tryd.underlying47 rfl) (hF75.get rfl) (blk_word hW.2 (by omega) (by have := (show List.length m = _ from hm); omega)))) ?_
    intro a78 hF79; clear hF75
    refine any_pure (i := 6) (v := (.slice A 64 c)) hF79 (by decide +kernel) (by decide +kernel) rfl rfl rfl rfl (fun _ _ _ _ h => h) rfl (fun W => (rn_move (hF79.get rfl))) ?_
    intro a80 hF81; clear hF79
    refine any_pure (i := 7) (v := (.int .i64 (k : Nat))) hF81 (by decide +kernel) (by decide +kernel) rfl rfl rfl rfl (fun _ _ _ _ h => h) rfl (fun W => (rn_move (hF81.get rfl))) ?_
    intro a82 hF83; clear hF81
    have d87 := ((hc.ext hx42).ext hx63)
    obtain ⟨b84, o85, hA86, -⟩ := Fl.at d87 (by omega)
    refine any_pure (i := 8) (v := (.pointer (some ⟨b84, o85 + k, none⟩))) hF83 (by decide +kernel) (by decide +kernel) rfl rfl rfl rfl (fun _ _ _ _ h => h) rfl (fun W => (rn_index1 Tryd.underlying22 (by kernel_rfl : (Tryd.prog.info? 5).map (·.size) = some 1) ((hF83.get rfl).trans (by rw [hA86])) (hF83.get rfl) (by omega : (0 : Int) ≤ (k : Nat)) (by omega : ((k : Nat) : Int) < ((64 : Nat) : Int)))) ?_
    intro a88 hF89; clear hF83
    refine any_val (i := 9) (v := (.int .u8 ((b.getD k 0).toNat : Nat))) hF89 (by decide +kernel) (by decide +kernel) rfl rfl rfl rfl (fun _ _ _ _ h => h) rfl hS76 (fun W hW => (rn_load (isAgg_no Tryd.underlying5 rfl) (hF89.get rfl) (Fl.cellAt (d87.ext hW.1) hA86 (byteVals_at (i := k) (by have := hbl; omega))))) ?_
    intro a90 hF91; clear hF89
    refine any_val (i := 10) (v := (.int .u32 (((b.getD k 0).toUInt32).toNat : Nat))) hF91 (by decide +kernel) (by decide +kernel) rfl rfl rfl rfl (fun _ _ _ _ h => h) rfl hS76 (fun W hW => (rn_convW Tryd.underlying5 Tryd.underlying47 (hF91.get rfl) (cv8_32 (b.getD k 0)))) ?_
    intro a92 hF93; clear hF91
    refine any_pure (i := 11) (v := (.int .i64 (k : Nat))) hF93 (by decide +kernel) (by decide +kernel) rfl rfl rfl rfl (fun _ _ _ _ h => h) rfl (fun W => (rn_move (hF93.get rfl))) ?_
    intro a94 hF95; clear hF93
    refine any_pure (i := 12) (v := (.int .i64 (k % 4 : Nat))) hF95 (by decide +kernel) (by decide +kernel) rfl rfl rfl rfl (fun _ _ _ _ h => h) rfl (fun W => (rn_remN (a := k) (b := 4) (hF95.get rfl) rfl (by omega))) ?_
    intro a96 hF97; clear hF95
    refine any_pure (i := 13) (v := (.int .i64 (8 * (k % 4) : Nat))) hF97 (by decide +kernel) (by decide +kernel) rfl rfl rfl rfl (fun _ _ _ _ h => h) rfl (fun W => (rn_mulN (a := 8) (b := k % 4) rfl (hF97.get rfl) (by omega))) ?_
    intro a98 hF99; clear hF97
    refine any_pure (i := 14) (v := (.int .u32 ((((b.getD k 0).toUInt32) <<< UInt32.ofNat (8 * (k % 4))).toNat : Nat))) hF99 (by decide +kernel) (by decide +kernel) rfl rfl rfl rfl (fun _ _ _ _ h => h) rfl (fun W => (rn_shl32 (a := ((b.getD k 0).toUInt32)) (n := (8 * (k % 4))) (hF99.get rfl) (hF99.get rfl) (by omega))) ?_
    intro a100 hF101; clear hF99
    refine any_pure (i := 15) (v := (.int .u32 (((m.getD (k / 4) 0) ||| (((b.getD k 0).toUInt32) <<< UInt32.ofNat (8 * (k % 4)))).toNat : Nat))) hF101 (by decide +kernel) (by decide +kernel) rfl rfl rfl rfl (fun _ _ _ _ h => h) rfl (fun W => (rn_or32 (a := (m.getD (k / 4) 0)) (b := (((b.getD k 0).toUInt32) <<< UInt32.ofNat (8 * (k % 4)))) (hF101.get rfl) (hF101.get rfl))) ?_
    intro a102 hF103; clear hF101
    refine any_pure (i := 16) (v := (.pointer (some ⟨g21, 0 + (k / 4), none⟩))) hF103 (by decide +kernel) (by decide +kernel) rfl rfl rfl rfl (fun _ _ _ _ h => h) rfl (fun W => (rn_indexArr Tryd.underlying62 (by kernel_rfl : (Tryd.prog.info? 47).map (·.size) = some 1) (hF103.get rfl) (hF103.get rfl) (by omega : (0 : Int) ≤ (k / 4 : Nat)) (by omega : ((k / 4 : Nat) : Int) < ((16 : Nat) : Int)))) ?_
    intro a104 hF105; clear hF103
    refine any_one (i := 17) (by decide +kernel) rfl ?_
    refine o_store1 (new := (u32Vals (m.set (k / 4) ((m.getD (k / 4) 0) ||| (((b.getD k 0).toUInt32) <<< UInt32.ofNat (8 * (k % 4))))))) hF105 rfl rfl rfl rfl (hF105.get rfl) (hF105.get rfl) b77 (by kernel_rfl : (Tryd.prog.info? 47).map (·.size) = some 1) (by rw [u32Vals_len hm]; omega) rfl (u32Vals_set (by omega)) ?_
    intro w106 b107 hg108; have z109 := hg108.size
    refine ⟨fun h => absurd h (by decide), ?_⟩
    refine any_nil (by decide +kernel) ?_
    refine hK61 _ _ ?_
    clear hK61
    have hF110 := (((((((((hF105.nil.cons (hF105.get (t := 22) (v := (.bool (decide (((k : Nat) : Int) < (64 : Int))))) rfl)).cons (hF105.get (t := 10) (v := (.int .i64 (k : Nat))) rfl)).cons (hF105.get (t := 9) (v := (.pointer (some ⟨g21, 0, none⟩))) rfl)).cons (hF105.get (t := 8) (v := (.pointer (some ⟨g10, 0, none⟩))) rfl)).cons (hF105.get (t := 4) (v := (.pointer (some ⟨g2, 0, none⟩))) rfl)).cons (hF105.get (t := 3) (v := (.bool last)) rfl)).cons (hF105.get (t := 2) (v := (.int .u64 (n.toNat : Nat))) rfl)).cons (hF105.get (t := 1) (v := (.slice A 64 c)) rfl)).cons (hF105.get (t := 0) (v := (.agg (u32Vals h).toArray)) rfl))
    clear hF105
    refine wp_region_lit ?_
    refine wpl_op (i := 0) rfl (o_val (v := (.int .i64 (k : Nat))) hF110 rfl rfl rfl rfl (rn_move (hF110.get rfl)) ?_)
    intro a111 hF112; clear hF110
    refine wpl_op (i := 1) rfl (o_val (v := (.int .i64 (k + 1 : Nat))) hF112 rfl rfl rfl rfl (rn_addN (a := k) (b := 1) (hF112.get rfl) rfl (by omega)) ?_)
    intro a113 hF114; clear hF112
    refine wpl_op (i := 2) rfl (o_val (v := (.int .i64 (k + 1 : Nat))) hF114 rfl rfl rfl rfl (rn_assign (hF114.get rfl)) ?_)
    intro a115 hF116; clear hF114
    refine wpList_nil ?_
    obtain ⟨v117, e118⟩ : ∃ z, z = m.set (k / 4) ((m.getD (k / 4) 0) ||| (((b.getD k 0).toUInt32) <<< UInt32.ofNat (8 * (k % 4)))) := ⟨_, rfl⟩
    have hl119 : v117.length = 16 := (congrArg List.length e118).trans (show List.length (m.set (k / 4) ((m.getD (k / 4) 0) ||| (((b.getD k 0).toUInt32) <<< UInt32.ofNat (8 * (k % 4))))) = _ from List.length_set.trans hm)
    rw [← e118] at b107
    have b120 : Blk w106 g2 48 (u32Vals h) := ((b45.ext hx63).grownN hg108 (by omega))
    have b121 : Blk w106 g10 48 (u32Vals (List.replicate 8 0)) := ((b46.ext hx63).grownN hg108 (by omega))
    refine ⟨⟨(k + 1), v117, ((((((((hF116.nil.cons (q_get hF116 (t := 10) rfl (by first | rfl | (congr 1; omega) | (congr 1; done)))).cons (q_get hF116 (t := 9) rfl rfl)).cons (q_get hF116 (t := 8) rfl rfl)).cons (q_get hF116 (t := 4) rfl rfl)).cons (q_get hF116 (t := 3) rfl rfl)).cons (q_get hF116 (t := 2) rfl rfl)).cons (q_get hF116 (t := 1) rfl rfl)).cons (q_get hF116 (t := 0) rfl rfl)), (by omega), (wordsTo_step hp44 e118), ((((Ext.refl w).trans hx42).trans hx63).grownN hg108 (by omega)), b120, b121, b107, (by omega)⟩, ?_⟩
    rw [hF116.get (t := 10) rfl, hL49.get (t := 10) rfl]; simp [intOf] <;> omega
  · skip
    refine wp_cond_false (c_false hF59 rfl (decide_eq_false hc60)) ?_
    refine wp_exit ?_
    refine exit_then ?_
    refine exit_then ?_
    refine exit_here ?_
    refine hK33 _ _ ?_
    clear hK33
    refine wp_seq_k (fun K122 hK122 => ?_)
    refine wp_region_lit ?_
    refine wpl_op (i := 0) rfl (o_val (v := (.agg (u32Vals (List.replicate 16 0)).toArray)) hF59 rfl rfl rfl rfl (rn_build parts0 (by kernel_rfl)) ?_)
    intro a123 hF124; clear hF59
    refine wpl_op (i := 1) rfl (o_new (fun g => (.pointer (some ⟨g, 0, none⟩))) (u32Vals (List.replicate 16 0)) 62 hF124 rfl rfl rfl rfl (by kernel_rfl) ?_)
    intro g125 w126 a131 hF132 z129 z130 b127 hx128; clear hF124
    refine wpl_op (i := 2) rfl (o_store (cells := (u32Vals (List.replicate 16 0))) hF132 rfl rfl rfl rfl (hF132.get rfl) (hF132.get rfl) b127 ((by kernel_rfl : (Tryd.prog.info? 62).map (·.size) = some 16).trans (congrArg some (u32Vals_len (show List.length (List.replicate 16 0) = _ from List.length_replicate)).symm)) ((u32Vals_len (show List.length (List.replicate 16 0) = _ from List.length_replicate)).trans (u32Vals_len (show List.length (List.replicate 16 0) = _ from List.length_replicate)).symm) (u32Vals_one _) ?_)
    intro w133 b134 hg135; have z136 := hg135.size
    refine wpList_nil ?_
    refine hK122 _ _ ?_
    clear hK122
    refine wp_seq_k (fun K137 hK137 => ?_)
    refine wp_region_lit ?_
    refine wpl_op (i := 0) rfl (o_call hF132 rfl rfl rfl rfl (rn_call (args0 ) rfl (by kernel_rfl)) (rinitial_any _) ?_)
    rintro _ w138 ⟨rfl, hx139⟩
    refine ⟨_, rfl, ?_⟩; intro a140 hF141; clear hF132; have z142 := hx139.size
    refine wpl_op (i := 1) rfl (o_new (fun g => (.pointer (some ⟨g, 0, none⟩))) (u32Vals (List.replicate 8 0)) 48 hF141 rfl rfl rfl rfl (by kernel_rfl) ?_)
    intro g143 w144 a149 hF150 z147 z148 b145 hx146; clear hF141
    refine wpl_op (i := 2) rfl (o_store (cells := (u32Vals iv)) hF150 rfl rfl rfl rfl (hF150.get rfl) (hF150.get rfl) b145 ((by kernel_rfl : (Tryd.prog.info? 48).map (·.size) = some 8).trans (congrArg some (u32Vals_len iv_len).symm)) ((u32Vals_len (show List.length (List.replicate 8 0) = _ from List.length_replicate)).trans (u32Vals_len iv_len).symm) (u32Vals_one _) ?_)
    intro w151 b152 hg153; have z154 := hg153.size
    refine wpList_nil ?_
    refine hK137 _ _ ?_
    clear hK137
    refine wp_seq_k (fun K155 hK155 => ?_)
    refine wp_seq_k (fun K156 hK156 => ?_)
    refine wp_region_lit ?_
    refine wpl_op (i := 0) rfl (o_val (v := (.int .i64 0)) hF150 rfl rfl rfl rfl (rn_assign rfl) ?_)
    intro a157 hF158; clear hF150
    refine wpList_nil ?_
    refine hK156 _ _ ?_
    clear hK156
    refine wp_block ?_
    have hmw : m = words b := words_eq hp44 (by omega)
    have b159 : Blk w151 g2 48 (u32Vals h) := (((((b45.ext hx128).grownN hg135 (by omega)).ext hx139).ext hx146).grownN hg153 (by omega))
    have b160 : Blk w151 g10 48 (u32Vals (List.replicate 8 0)) := (((((b46.ext hx128).grownN hg135 (by omega)).ext hx139).ext hx146).grownN hg153 (by omega))
    have b161 : Blk w151 g21 62 (u32Vals m) := (((((b47.ext hx128).grownN hg135 (by omega)).ext hx139).ext hx146).grownN hg153 (by omega))
    have b162 : Blk w151 g125 62 (u32Vals (List.replicate 16 0)) := (((b134.ext hx139).ext hx146).grownN hg153 (by omega))
    refine wp_loop (fun a' W => ∃ (k1 : Nat) (v0 : List UInt32), Sl 182 [(0, (.agg (u32Vals h).toArray)), (1, (.slice A 64 c)), (2, (.int .u64 (n.toNat : Nat))), (3, (.bool last)), (4, (.pointer (some ⟨g2, 0, none⟩))), (8, (.pointer (some ⟨g10, 0, none⟩))), (9, (.pointer (some ⟨g21, 0, none⟩))), (10, (.int .i64 (k : Nat))), (22, (.bool (decide (((k : Nat) : Int) < (64 : Int))))), (11, (.pointer (some ⟨g125, 0, none⟩))), (12, (.pointer (some ⟨g143, 0, none⟩))), (13, (.int .i64 (k1 : Nat)))] a' ∧ k1 ≤ 8 ∧ v0 = vTo h k1 ∧ Ext w W ∧ Blk W g2 48 (u32Vals h) ∧ Blk W g10 48 (u32Vals (List.replicate 8 0)) ∧ Blk W g21 62 (u32Vals m) ∧ Blk W g125 62 (u32Vals v0) ∧ Blk W g143 48 (u32Vals iv) ∧ w151.heap.size ≤ W.heap.size) (fun a' _ => 8 - (intOf (a'.eval (.tmp 13))).toNat) ⟨0, (List.replicate 16 0), ((((((((((((hF158.nil.cons (q_get hF158 (t := 13) rfl (by first | rfl | (congr 1; omega) | (congr 1; done)))).cons (q_get hF158 (t := 12) rfl rfl)).cons (q_get hF158 (t := 11) rfl rfl)).cons (q_get hF158 (t := 22) rfl rfl)).cons (q_get hF158 (t := 10) rfl rfl)).cons (q_get hF158 (t := 9) rfl rfl)).cons (q_get hF158 (t := 8) rfl rfl)).cons (q_get hF158 (t := 4) rfl rfl)).cons (q_get hF158 (t := 3) rfl rfl)).cons (q_get hF158 (t := 2) rfl rfl)).cons (q_get hF158 (t := 1) rfl rfl)).cons (q_get hF158 (t := 0) rfl rfl)), (by omega), rfl, (((((((Ext.refl w).trans hx42).trans hx128).grownN hg135 (by omega)).trans hx139).trans hx146).grownN hg153 (by omega)), b159, b160, b161, b162, b152, (Nat.le_refl _)⟩ ?_
    clear hF158
    rintro a163 w164 ⟨k1, v0, hF165, hp167, hp168, hx166, b169, b170, b171, b172, b173, hf174⟩
    have hL175 := hF165
    have z176 := hx166.size
    have z177 := b169.lt
    have z178 := b170.lt
    have z179 := b171.lt
    have z180 := b172.lt
    have z181 := b173.lt
    have hvl0 : v0.length = 16 := by rw [hp168]; exact vTo_len hh (by omega)
    refine wp_seq_k (fun K182 hK182 => ?_)
    refine wp_seq_k (fun K183 hK183 => ?_)
    refine wp_region_lit ?_
    refine wpl_op (i := 0) rfl (o_val (v := (.int .i64 (k1 : Nat))) hF165 rfl rfl rfl rfl (rn_move (hF165.get rfl)) ?_)
    intro a184 hF185; clear hF165
    refine wpl_op (i := 1) rfl (o_val (v := (.bool (decide (((k1 : Nat) : Int) < (8 : Int))))) hF185 rfl rfl rfl rfl (rn_lss (hF185.get rfl) rfl) ?_)
    intro a186 hF187; clear hF185
    refine wpList_nil ?_
    refine hK183 _ _ ?_
    clear hK183
    by_cases hc188 : ((k1 : Nat) : Int) < (8 : Int)
    · skip
      refine wp_cond_true (c_true hF187 rfl (decide_eq_true hc188)) ?_
      refine wp_skip ?_
      refine hK182 _ _ ?_
      clear hK182
      refine wp_seq_k (fun K189 hK189 => ?_)
      refine wp_block ?_
      refine wp_seq_k (fun K190 hK190 => ?_)
      refine wp_region_lit ?_
      refine wpl_op (i := 0) rfl (o_val (v := (.int .i64 (k1 : Nat))) hF187 rfl rfl rfl rfl (rn_move (hF187.get rfl)) ?_)
      intro a191 hF192; clear hF187
      refine wpl_op (i := 1) rfl (o_val (v := (.int .i64 (k1 : Nat))) hF192 rfl rfl rfl rfl (rn_move (hF192.get rfl)) ?_)
      intro a193 hF194; clear hF192
      refine wpl_op (i := 2) rfl (o_val (v := (.pointer (some ⟨g2, 0 + k1, none⟩))) hF194 rfl rfl rfl rfl (rn_indexArr Tryd.underlying48 (by kernel_rfl : (Tryd.prog.info? 47).map (·.size) = some 1) (hF194.get rfl) (hF194.get rfl) (by omega : (0 : Int) ≤ (k1 : Nat)) (by omega : ((k1 : Nat) : Int) < ((8 : Nat) : Int))) ?_)
      intro a195 hF196; clear hF194
      refine wpl_op (i := 3) rfl (o_val (v := (.int .u32 ((h.getD k1 0).toNat : Nat))) hF196 rfl rfl rfl rfl (rn_load (isAgg_no Tryd.underlying47 rfl) (hF196.get rfl) (blk_word b169 (by omega) (by have := (show List.length h = _ from hh); omega))) ?_)
      intro a197 hF198; clear hF196
      refine wpl_op (i := 4) rfl (o_val (v := (.pointer (some ⟨g125, 0 + k1, none⟩))) hF198 rfl rfl rfl rfl (rn_indexArr Tryd.underlying62 (by kernel_rfl : (Tryd.prog.info? 47).map (·.size) = some 1) (hF198.get rfl) (hF198.get rfl) (by omega : (0 : Int) ≤ (k1 : Nat)) (by omega : ((k1 : Nat) : Int) < ((16 : Nat) : Int))) ?_)
      intro a199 hF200; clear hF198
      refine wpl_op (i := 5) rfl (o_store1 (new := (u32Vals (v0.set k1 (h.getD k1 0)))) hF200 rfl rfl rfl rfl (hF200.get rfl) (hF200.get rfl) b172 (by kernel_rfl : (Tryd.prog.info? 47).map (·.size) = some 1) (by rw [u32Vals_len hvl0]; omega) rfl (u32Vals_set (by omega)) ?_)
      intro w201 b202 hg203; have z204 := hg203.size
      refine wpList_nil ?_
      refine hK190 _ _ ?_
      clear hK190
      have hF205 := (((((((((((((hF200.nil.cons (hF200.get (t := 45) (v := (.bool (decide (((k1 : Nat) : Int) < (8 : Int))))) rfl)).cons (hF200.get (t := 13) (v := (.int .i64 (k1 : Nat))) rfl)).cons (hF200.get (t := 12) (v := (.pointer (some ⟨g143, 0, none⟩))) rfl)).cons (hF200.get (t := 11) (v := (.pointer (some ⟨g125, 0, none⟩))) rfl)).cons (hF200.get (t := 22) (v := (.bool (decide (((k : Nat) : Int) < (64 : Int))))) rfl)).cons (hF200.get (t := 10) (v := (.int .i64 (k : Nat))) rfl)).cons (hF200.get (t := 9) (v := (.pointer (some ⟨g21, 0, none⟩))) rfl)).cons (hF200.get (t := 8) (v := (.pointer (some ⟨g10, 0, none⟩))) rfl)).cons (hF200.get (t := 4) (v := (.pointer (some ⟨g2, 0, none⟩))) rfl)).cons (hF200.get (t := 3) (v := (.bool last)) rfl)).cons (hF200.get (t := 2) (v := (.int .u64 (n.toNat : Nat))) rfl)).cons (hF200.get (t := 1) (v := (.slice A 64 c)) rfl)).cons (hF200.get (t := 0) (v := (.agg (u32Vals h).toArray)) rfl))
      clear hF200
      refine wp_region_lit ?_
      refine wpl_op (i := 0) rfl (o_val (v := (.int .i64 (k1 : Nat))) hF205 rfl rfl rfl rfl (rn_move (hF205.get rfl)) ?_)
      intro a206 hF207; clear hF205
      refine wpl_op (i := 1) rfl (o_val (v := (.int .i64 (8 + k1 : Nat))) hF207 rfl rfl rfl rfl (rn_addN (a := 8) (b := k1) rfl (hF207.get rfl) (by omega)) ?_)
      intro a208 hF209; clear hF207
      refine wpl_op (i := 2) rfl (o_val (v := (.int .i64 (k1 : Nat))) hF209 rfl rfl rfl rfl (rn_move (hF209.get rfl)) ?_)
      intro a210 hF211; clear hF209
      refine wpl_op (i := 3) rfl (o_val (v := (.pointer (some ⟨g143, 0 + k1, none⟩))) hF211 rfl rfl rfl rfl (rn_indexArr Tryd.underlying48 (by kernel_rfl : (Tryd.prog.info? 47).map (·.size) = some 1) (hF211.get rfl) (hF211.get rfl) (by omega : (0 : Int) ≤ (k1 : Nat)) (by omega : ((k1 : Nat) : Int) < ((8 : Nat) : Int))) ?_)
      intro a212 hF213; clear hF211
      have b214 : Blk w201 g143 48 (u32Vals iv) := (b173.grownN hg203 (by omega))
      refine wpl_op (i := 4) rfl (o_val (v := (.int .u32 ((iv.getD k1 0).toNat : Nat))) hF213 rfl rfl rfl rfl (rn_load (isAgg_no Tryd.underlying47 rfl) (hF213.get rfl) (blk_word b214 (by omega) (by have := (show List.length iv = _ from iv_len); omega))) ?_)
      intro a215 hF216; clear hF213
      refine wpl_op (i := 5) rfl (o_val (v := (.pointer (some ⟨g125, 0 + (8 + k1), none⟩))) hF216 rfl rfl rfl rfl (rn_indexArr Tryd.underlying62 (by kernel_rfl : (Tryd.prog.info? 47).map (·.size) = some 1) (hF216.get rfl) (hF216.get rfl) (by omega : (0 : Int) ≤ (8 + k1 : Nat)) (by omega : ((8 + k1 : Nat) : Int) < ((16 : Nat) : Int))) ?_)
      intro a217 hF218; clear hF216
      refine wpl_op (i := 6) rfl (o_store1 (new := (u32Vals ((v0.set k1 (h.getD k1 0)).set (8 + k1) (iv.getD k1 0)))) hF218 rfl rfl rfl rfl (hF218.get rfl) (hF218.get rfl) b202 (by kernel_rfl : (Tryd.prog.info? 47).map (·.size) = some 1) (by rw [u32Vals_len (show List.length (v0.set k1 (h.getD k1 0)) = _ from List.length_set.trans hvl0)]; omega) rfl (u32Vals_set (by omega)) ?_)
      intro w219 b220 hg221; have z222 := hg221.size
      refine wpList_nil ?_
      refine hK189 _ _ ?_
      clear hK189
      have hF223 := (((((((((((((hF218.nil.cons (hF218.get (t := 45) (v := (.bool (decide (((k1 : Nat) : Int) < (8 : Int))))) rfl)).cons (hF218.get (t := 13) (v := (.int .i64 (k1 : Nat))) rfl)).cons (hF218.get (t := 12) (v := (.pointer (some ⟨g143, 0, none⟩))) rfl)).cons (hF218.get (t := 11) (v := (.pointer (some ⟨g125, 0, none⟩))) rfl)).cons (hF218.get (t := 22) (v := (.bool (decide (((k : Nat) : Int) < (64 : Int))))) rfl)).cons (hF218.get (t := 10) (v := (.int .i64 (k : Nat))) rfl)).cons (hF218.get (t := 9) (v := (.pointer (some ⟨g21, 0, none⟩))) rfl)).cons (hF218.get (t := 8) (v := (.pointer (some ⟨g10, 0, none⟩))) rfl)).cons (hF218.get (t := 4) (v := (.pointer (some ⟨g2, 0, none⟩))) rfl)).cons (hF218.get (t := 3) (v := (.bool last)) rfl)).cons (hF218.get (t := 2) (v := (.int .u64 (n.toNat : Nat))) rfl)).cons (hF218.get (t := 1) (v := (.slice A 64 c)) rfl)).cons (hF218.get (t := 0) (v := (.agg (u32Vals h).toArray)) rfl))
      clear hF218
      refine wp_region_lit ?_
      refine wpl_op (i := 0) rfl (o_val (v := (.int .i64 (k1 : Nat))) hF223 rfl rfl rfl rfl (rn_move (hF223.get rfl)) ?_)
      intro a224 hF225; clear hF223
      refine wpl_op (i := 1) rfl (o_val (v := (.int .i64 (k1 + 1 : Nat))) hF225 rfl rfl rfl rfl (rn_addN (a := k1) (b := 1) (hF225.get rfl) rfl (by omega)) ?_)
      intro a226 hF227; clear hF225
      refine wpl_op (i := 2) rfl (o_val (v := (.int .i64 (k1 + 1 : Nat))) hF227 rfl rfl rfl rfl (rn_assign (hF227.get rfl)) ?_)
      intro a228 hF229; clear hF227
      refine wpList_nil ?_
      obtain ⟨v230, e231⟩ : ∃ z, z = (v0.set k1 (h.getD k1 0)).set (8 + k1) (iv.getD k1 0) := ⟨_, rfl⟩
      have hl232 : v230.length = 16 := (congrArg List.length e231).trans (show List.length ((v0.set k1 (h.getD k1 0)).set (8 + k1) (iv.getD k1 0)) = _ from List.length_set.trans (show List.length (v0.set k1 (h.getD k1 0)) = _ from List.length_set.trans hvl0))
      rw [← e231] at b220
      have b233 : Blk w219 g2 48 (u32Vals h) := ((b169.grownN hg203 (by omega)).grownN hg221 (by omega))
      have b234 : Blk w219 g10 48 (u32Vals (List.replicate 8 0)) := ((b170.grownN hg203 (by omega)).grownN hg221 (by omega))
      have b235 : Blk w219 g21 62 (u32Vals m) := ((b171.grownN hg203 (by omega)).grownN hg221 (by omega))
      have b236 : Blk w219 g143 48 (u32Vals iv) := (b214.grownN hg221 (by omega))
      refine ⟨⟨(k1 + 1), v230, ((((((((((((hF229.nil.cons (q_get hF229 (t := 13) rfl (by first | rfl | (congr 1; omega) | (congr 1; done)))).cons (q_get hF229 (t := 12) rfl rfl)).cons (q_get hF229 (t := 11) rfl rfl)).cons (q_get hF229 (t := 22) rfl rfl)).cons (q_get hF229 (t := 10) rfl rfl)).cons (q_get hF229 (t := 9) rfl rfl)).cons (q_get hF229 (t := 8) rfl rfl)).cons (q_get hF229 (t := 4) rfl rfl)).cons (q_get hF229 (t := 3) rfl rfl)).cons (q_get hF229 (t := 2) rfl rfl)).cons (q_get hF229 (t := 1) rfl rfl)).cons (q_get hF229 (t := 0) rfl rfl)), (by omega), (vTo_step hh (by omega) hp168 e231), ((((Ext.refl w).trans hx166).grownN hg203 (by omega)).grownN hg221 (by omega)), b233, b234, b235, b220, b236, (by omega)⟩, ?_⟩
      rw [hF229.get (t := 13) rfl, hL175.get (t := 13) rfl]; simp [intOf] <;> omega
    · skip
      refine wp_cond_false (c_false hF187 rfl (decide_eq_false hc188)) ?_
      refine wp_exit ?_
      refine exit_then ?_
      refine exit_then ?_
      refine exit_here ?_
      refine hK155 _ _ ?_
      clear hK155
      refine wp_seq_k (fun K237 hK237 => ?_)
      refine wp_region_lit ?_
      refine wpl_op (i := 0) rfl (o_val (v := (.pointer (some ⟨g125, 0 + 12, none⟩))) hF187 rfl rfl rfl rfl (rn_indexArr Tryd.underlying62 (by kernel_rfl : (Tryd.prog.info? 47).map (·.size) = some 1) (hF187.get rfl) rfl (by omega : (0 : Int) ≤ 12) (by omega : (12 : Int) < ((16 : Nat) : Int))) ?_)
      intro a238 hF239; clear hF187
      refine wpl_op (i := 1) rfl (o_val (v := (.int .u32 ((v0.getD 12 0).toNat : Nat))) hF239 rfl rfl rfl rfl (rn_load (isAgg_no Tryd.underlying47 rfl) (hF239.get rfl) (blk_word b172 (by omega) (by have := (show List.length v0 = _ from hvl0); omega))) ?_)
      intro a240 hF241; clear hF239
      refine wpl_op (i := 2) rfl (o_val (v := (.int .u64 (n.toNat : Nat))) hF241 rfl rfl rfl rfl (rn_move (hF241.get rfl)) ?_)
      intro a242 hF243; clear hF241
      refine wpl_op (i := 3) rfl (o_val (v := (.int .u32 (n.toUInt32.toNat : Nat))) hF243 rfl rfl rfl rfl (rn_convW Tryd.underlying49 Tryd.underlying47 (hF243.get rfl) (cv64_32 n)) ?_)
      intro a244 hF245; clear hF243
      refine wpl_op (i := 4) rfl (o_val (v := (.int .u32 (((v0.getD 12 0) ^^^ n.toUInt32).toNat : Nat))) hF245 rfl rfl rfl rfl (rn_xor32 (a := (v0.getD 12 0)) (b := n.toUInt32) (hF245.get rfl) (hF245.get rfl)) ?_)
      intro a246 hF247; clear hF245
      refine wpl_op (i := 5) rfl (o_val (v := (.pointer (some ⟨g125, 0 + 12, none⟩))) hF247 rfl rfl rfl rfl (rn_indexArr Tryd.underlying62 (by kernel_rfl : (Tryd.prog.info? 47).map (·.size) = some 1) (hF247.get rfl) rfl (by omega : (0 : Int) ≤ 12) (by omega : (12 : Int) < ((16 : Nat) : Int))) ?_)
      intro a248 hF249; clear hF247
      refine wpl_op (i := 6) rfl (o_store1 (new := (u32Vals (v0.set 12 ((v0.getD 12 0) ^^^ n.toUInt32)))) hF249 rfl rfl rfl rfl (hF249.get rfl) (hF249.get rfl) b172 (by kernel_rfl : (Tryd.prog.info? 47).map (·.size) = some 1) (by rw [u32Vals_len hvl0]; omega) rfl (u32Vals_set (by omega)) ?_)
      intro w250 b251 hg252; have z253 := hg252.size
      refine wpList_nil ?_
      refine hK237 _ _ ?_
      clear hK237
      have hF254 := (((((((((((((hF249.nil.cons (hF249.get (t := 45) (v := (.bool (decide (((k1 : Nat) : Int) < (8 : Int))))) rfl)).cons (hF249.get (t := 13) (v := (.int .i64 (k1 : Nat))) rfl)).cons (hF249.get (t := 12) (v := (.pointer (some ⟨g143, 0, none⟩))) rfl)).cons (hF249.get (t := 11) (v := (.pointer (some ⟨g125, 0, none⟩))) rfl)).cons (hF249.get (t := 22) (v := (.bool (decide (((k : Nat) : Int) < (64 : Int))))) rfl)).cons (hF249.get (t := 10) (v := (.int .i64 (k : Nat))) rfl)).cons (hF249.get (t := 9) (v := (.pointer (some ⟨g21, 0, none⟩))) rfl)).cons (hF249.get (t := 8) (v := (.pointer (some ⟨g10, 0, none⟩))) rfl)).cons (hF249.get (t := 4) (v := (.pointer (some ⟨g2, 0, none⟩))) rfl)).cons (hF249.get (t := 3) (v := (.bool last)) rfl)).cons (hF249.get (t := 2) (v := (.int .u64 (n.toNat : Nat))) rfl)).cons (hF249.get (t := 1) (v := (.slice A 64 c)) rfl)).cons (hF249.get (t := 0) (v := (.agg (u32Vals h).toArray)) rfl))
      clear hF249
      refine wp_seq_k (fun K255 hK255 => ?_)
      refine wp_region_lit ?_
      refine wpl_op (i := 0) rfl (o_val (v := (.pointer (some ⟨g125, 0 + 13, none⟩))) hF254 rfl rfl rfl rfl (rn_indexArr Tryd.underlying62 (by kernel_rfl : (Tryd.prog.info? 47).map (·.size) = some 1) (hF254.get rfl) rfl (by omega : (0 : Int) ≤ 13) (by omega : (13 : Int) < ((16 : Nat) : Int))) ?_)
      intro a256 hF257; clear hF254
      refine wpl_op (i := 1) rfl (o_val (v := (.int .u32 (((v0.set 12 ((v0.getD 12 0) ^^^ n.toUInt32)).getD 13 0).toNat : Nat))) hF257 rfl rfl rfl rfl (rn_load (isAgg_no Tryd.underlying47 rfl) (hF257.get rfl) (blk_word b251 (by omega) (by have := (show List.length (v0.set 12 ((v0.getD 12 0) ^^^ n.toUInt32)) = _ from (show List.length (v0.set 12 ((v0.getD 12 0) ^^^ n.toUInt32)) = _ from List.length_set.trans hvl0)); omega))) ?_)
      intro a258 hF259; clear hF257
      refine wpl_op (i := 2) rfl (o_val (v := (.int .u64 (n.toNat : Nat))) hF259 rfl rfl rfl rfl (rn_move (hF259.get rfl)) ?_)
      intro a260 hF261; clear hF259
      refine wpl_op (i := 3) rfl (o_val (v := (.int .u64 ((n >>> UInt64.ofNat 32).toNat : Nat))) hF261 rfl rfl rfl rfl (rn_shr64 (a := n) (n := 32) (hF261.get rfl) rfl (by omega)) ?_)
      intro a262 hF263; clear hF261
      refine wpl_op (i := 4) rfl (o_val (v := (.int .u32 (((n >>> UInt64.ofNat 32).toUInt32).toNat : Nat))) hF263 rfl rfl rfl rfl (rn_convW Tryd.underlying49 Tryd.underlying47 (hF263.get rfl) (cv64_32 (n >>> UInt64.ofNat 32))) ?_)
      intro a264 hF265; clear hF263
      refine wpl_op (i := 5) rfl (o_val (v := (.int .u32 ((((v0.set 12 ((v0.getD 12 0) ^^^ n.toUInt32)).getD 13 0) ^^^ ((n >>> UInt64.ofNat 32).toUInt32)).toNat : Nat))) hF265 rfl rfl rfl rfl (rn_xor32 (a := ((v0.set 12 ((v0.getD 12 0) ^^^ n.toUInt32)).getD 13 0)) (b := ((n >>> UInt64.ofNat 32).toUInt32)) (hF265.get rfl) (hF265.get rfl)) ?_)
      intro a266 hF267; clear hF265
      refine wpl_op (i := 6) rfl (o_val (v := (.pointer (some ⟨g125, 0 + 13, none⟩))) hF267 rfl rfl rfl rfl (rn_indexArr Tryd.underlying62 (by kernel_rfl : (Tryd.prog.info? 47).map (·.size) = some 1) (hF267.get rfl) rfl (by omega : (0 : Int) ≤ 13) (by omega : (13 : Int) < ((16 : Nat) : Int))) ?_)
      intro a268 hF269; clear hF267
      refine wpl_op (i := 7) rfl (o_store1 (new := (u32Vals ((v0.set 12 ((v0.getD 12 0) ^^^ n.toUInt32)).set 13 (((v0.set 12 ((v0.getD 12 0) ^^^ n.toUInt32)).getD 13 0) ^^^ ((n >>> UInt64.ofNat 32).toUInt32))))) hF269 rfl rfl rfl rfl (hF269.get rfl) (hF269.get rfl) b251 (by kernel_rfl : (Tryd.prog.info? 47).map (·.size) = some 1) (by rw [u32Vals_len (show List.length (v0.set 12 ((v0.getD 12 0) ^^^ n.toUInt32)) = _ from List.length_set.trans hvl0)]; omega) rfl (u32Vals_set (by omega)) ?_)
      intro w270 b271 hg272; have z273 := hg272.size
      refine wpList_nil ?_
      refine hK255 _ _ ?_
      clear hK255
      have hF274 := (((((((((((((hF269.nil.cons (hF269.get (t := 45) (v := (.bool (decide (((k1 : Nat) : Int) < (8 : Int))))) rfl)).cons (hF269.get (t := 13) (v := (.int .i64 (k1 : Nat))) rfl)).cons (hF269.get (t := 12) (v := (.pointer (some ⟨g143, 0, none⟩))) rfl)).cons (hF269.get (t := 11) (v := (.pointer (some ⟨g125, 0, none⟩))) rfl)).cons (hF269.get (t := 22) (v := (.bool (decide (((k : Nat) : Int) < (64 : Int))))) rfl)).cons (hF269.get (t := 10) (v := (.int .i64 (k : Nat))) rfl)).cons (hF269.get (t := 9) (v := (.pointer (some ⟨g21, 0, none⟩))) rfl)).cons (hF269.get (t := 8) (v := (.pointer (some ⟨g10, 0, none⟩))) rfl)).cons (hF269.get (t := 4) (v := (.pointer (some ⟨g2, 0, none⟩))) rfl)).cons (hF269.get (t := 3) (v := (.bool last)) rfl)).cons (hF269.get (t := 2) (v := (.int .u64 (n.toNat : Nat))) rfl)).cons (hF269.get (t := 1) (v := (.slice A 64 c)) rfl)).cons (hF269.get (t := 0) (v := (.agg (u32Vals h).toArray)) rfl))
      clear hF269
      refine wp_seq_k (fun K275 hK275 => ?_)
      refine wp_seq_k (fun K276 hK276 => ?_)
      refine wp_region_lit ?_
      refine wpl_op (i := 0) rfl (o_val (v := (.bool last)) hF274 rfl rfl rfl rfl (rn_move (hF274.get rfl)) ?_)
      intro a277 hF278; clear hF274
      refine wpList_nil ?_
      refine hK276 _ _ ?_
      clear hK276
      rcases Bool.eq_false_or_eq_true last with hc279 | hc279
      · skip
        refine wp_cond_true (c_true hF278 rfl hc279) ?_
        refine wp_region_lit ?_
        refine wpl_op (i := 0) rfl (o_val (v := (.pointer (some ⟨g125, 0 + 14, none⟩))) hF278 rfl rfl rfl rfl (rn_indexArr Tryd.underlying62 (by kernel_rfl : (Tryd.prog.info? 47).map (·.size) = some 1) (hF278.get rfl) rfl (by omega : (0 : Int) ≤ 14) (by omega : (14 : Int) < ((16 : Nat) : Int))) ?_)
        intro a280 hF281; clear hF278
        refine wpl_op (i := 1) rfl (o_val (v := (.int .u32 ((((v0.set 12 ((v0.getD 12 0) ^^^ n.toUInt32)).set 13 (((v0.set 12 ((v0.getD 12 0) ^^^ n.toUInt32)).getD 13 0) ^^^ ((n >>> UInt64.ofNat 32).toUInt32))).getD 14 0).toNat : Nat))) hF281 rfl rfl rfl rfl (rn_load (isAgg_no Tryd.underlying47 rfl) (hF281.get rfl) (blk_word b271 (by omega) (by have := (show List.length ((v0.set 12 ((v0.getD 12 0) ^^^ n.toUInt32)).set 13 (((v0.set 12 ((v0.getD 12 0) ^^^ n.toUInt32)).getD 13 0) ^^^ ((n >>> UInt64.ofNat 32).toUInt32))) = _ from (show List.length ((v0.set 12 ((v0.getD 12 0) ^^^ n.toUInt32)).set 13 (((v0.set 12 ((v0.getD 12 0) ^^^ n.toUInt32)).getD 13 0) ^^^ ((n >>> UInt64.ofNat 32).toUInt32))) = _ from List.length_set.trans (show List.length (v0.set 12 ((v0.getD 12 0) ^^^ n.toUInt32)) = _ from List.length_set.trans hvl0))); omega))) ?_)
        intro a282 hF283; clear hF281
        refine wpl_op (i := 2) rfl (o_val (v := (.int .u32 (((((v0.set 12 ((v0.getD 12 0) ^^^ n.toUInt32)).set 13 (((v0.set 12 ((v0.getD 12 0) ^^^ n.toUInt32)).getD 13 0) ^^^ ((n >>> UInt64.ofNat 32).toUInt32))).getD 14 0) ^^^ (4294967295 : UInt32)).toNat : Nat))) hF283 rfl rfl rfl rfl (rn_xor32 (a := (((v0.set 12 ((v0.getD 12 0) ^^^ n.toUInt32)).set 13 (((v0.set 12 ((v0.getD 12 0) ^^^ n.toUInt32)).getD 13 0) ^^^ ((n >>> UInt64.ofNat 32).toUInt32))).getD 14 0)) (b := (4294967295 : UInt32)) (hF283.get rfl) rfl) ?_)
        intro a284 hF285; clear hF283
        refine wpl_op (i := 3) rfl (o_val (v := (.pointer (some ⟨g125, 0 + 14, none⟩))) hF285 rfl rfl rfl rfl (rn_indexArr Tryd.underlying62 (by kernel_rfl : (Tryd.prog.info? 47).map (·.size) = some 1) (hF285.get rfl) rfl (by omega : (0 : Int) ≤ 14) (by omega : (14 : Int) < ((16 : Nat) : Int))) ?_)
        intro a286 hF287; clear hF285
        refine wpl_op (i := 4) rfl (o_store1 (new := (u32Vals (((v0.set 12 ((v0.getD 12 0) ^^^ n.toUInt32)).set 13 (((v0.set 12 ((v0.getD 12 0) ^^^ n.toUInt32)).getD 13 0) ^^^ ((n >>> UInt64.ofNat 32).toUInt32))).set 14 ((((v0.set 12 ((v0.getD 12 0) ^^^ n.toUInt32)).set 13 (((v0.set 12 ((v0.getD 12 0) ^^^ n.toUInt32)).getD 13 0) ^^^ ((n >>> UInt64.ofNat 32).toUInt32))).getD 14 0) ^^^ (4294967295 : UInt32))))) hF287 rfl rfl rfl rfl (hF287.get rfl) (hF287.get rfl) b271 (by kernel_rfl : (Tryd.prog.info? 47).map (·.size) = some 1) (by rw [u32Vals_len (show List.length ((v0.set 12 ((v0.getD 12 0) ^^^ n.toUInt32)).set 13 (((v0.set 12 ((v0.getD 12 0) ^^^ n.toUInt32)).getD 13 0) ^^^ ((n >>> UInt64.ofNat 32).toUInt32))) = _ from List.length_set.trans (show List.length (v0.set 12 ((v0.getD 12 0) ^^^ n.toUInt32)) = _ from List.length_set.trans hvl0))]; omega) rfl (u32Vals_set (by omega)) ?_)
        intro w288 b289 hg290; have z291 := hg290.size
        refine wpList_nil ?_
        refine hK275 _ _ ?_
        clear hK275
        have hF292 := ((((((((((((((hF287.nil.cons (hF287.get (t := 72) (v := (.bool last)) rfl)).cons (hF287.get (t := 45) (v := (.bool (decide (((k1 : Nat) : Int) < (8 : Int))))) rfl)).cons (hF287.get (t := 13) (v := (.int .i64 (k1 : Nat))) rfl)).cons (hF287.get (t := 12) (v := (.pointer (some ⟨g143, 0, none⟩))) rfl)).cons (hF287.get (t := 11) (v := (.pointer (some ⟨g125, 0, none⟩))) rfl)).cons (hF287.get (t := 22) (v := (.bool (decide (((k : Nat) : Int) < (64 : Int))))) rfl)).cons (hF287.get (t := 10) (v := (.int .i64 (k : Nat))) rfl)).cons (hF287.get (t := 9) (v := (.pointer (some ⟨g21, 0, none⟩))) rfl)).cons (hF287.get (t := 8) (v := (.pointer (some ⟨g10, 0, none⟩))) rfl)).cons (hF287.get (t := 4) (v := (.pointer (some ⟨g2, 0, none⟩))) rfl)).cons (hF287.get (t := 3) (v := (.bool last)) rfl)).cons (hF287.get (t := 2) (v := (.int .u64 (n.toNat : Nat))) rfl)).cons (hF287.get (t := 1) (v := (.slice A 64 c)) rfl)).cons (hF287.get (t := 0) (v := (.agg (u32Vals h).toArray)) rfl))
        clear hF287
        refine wp_seq_k (fun K293 hK293 => ?_)
        refine wp_region_lit ?_
        refine wpl_op (i := 0) rfl (o_call hF292 rfl rfl rfl rfl (rn_call (args0 ) rfl (by kernel_rfl)) (rperm_any _) ?_)
        rintro _ w294 ⟨rfl, hx295⟩
        refine ⟨_, rfl, ?_⟩; intro a296 hF297; clear hF292; have z298 := hx295.size
        refine wpl_op (i := 1) rfl (o_new (fun g => (.pointer (some ⟨g, 0, none⟩))) (intVals (List.replicate 160 0)) 70 hF297 rfl rfl rfl rfl (by kernel_rfl) ?_)
        intro g299 w300 a305 hF306 z303 z304 b301 hx302; clear hF297
        refine wpl_op (i := 2) rfl (o_store (cells := (intVals permI)) hF306 rfl rfl rfl rfl (hF306.get rfl) (hF306.get rfl) b301 ((by kernel_rfl : (Tryd.prog.info? 70).map (·.size) = some 160).trans (congrArg some (intVals_len permI_len).symm)) ((intVals_len (show List.length (List.replicate 160 0) = _ from List.length_replicate)).trans (intVals_len permI_len).symm) (intVals_one _) ?_)
        intro w307 b308 hg309; have z310 := hg309.size
        refine wpList_nil ?_
        refine hK293 _ _ ?_
        clear hK293
        refine wp_seq_k (fun K311 hK311 => ?_)
        refine wp_seq_k (fun K312 hK312 => ?_)
        refine wp_region_lit ?_
        refine wpl_op (i := 0) rfl (o_val (v := (.int .i64 0)) hF306 rfl rfl rfl rfl (rn_assign rfl) ?_)
        intro a313 hF314; clear hF306
        refine wpList_nil ?_
        refine hK312 _ _ ?_
        clear hK312
        refine wp_block ?_
        have hv0 : v0 = h ++ iv := vTo_done hh (by rw [hp168, show k1 = 8 by omega])
        have b318 : Blk w307 g125 62 (u32Vals (((v0.set 12 ((v0.getD 12 0) ^^^ n.toUInt32)).set 13 (((v0.set 12 ((v0.getD 12 0) ^^^ n.toUInt32)).getD 13 0) ^^^ ((n >>> UInt64.ofNat 32).toUInt32))).set 14 ((((v0.set 12 ((v0.getD 12 0) ^^^ n.toUInt32)).set 13 (((v0.set 12 ((v0.getD 12 0) ^^^ n.toUInt32)).getD 13 0) ^^^ ((n >>> UInt64.ofNat 32).toUInt32))).getD 14 0) ^^^ (4294967295 : UInt32)))) := (((b289.ext hx295).ext hx302).grownN hg309 (by omega))
        obtain ⟨v315, e316⟩ : ∃ z, z = ((v0.set 12 ((v0.getD 12 0) ^^^ n.toUInt32)).set 13 (((v0.set 12 ((v0.getD 12 0) ^^^ n.toUInt32)).getD 13 0) ^^^ ((n >>> UInt64.ofNat 32).toUInt32))).set 14 ((((v0.set 12 ((v0.getD 12 0) ^^^ n.toUInt32)).set 13 (((v0.set 12 ((v0.getD 12 0) ^^^ n.toUInt32)).getD 13 0) ^^^ ((n >>> UInt64.ofNat 32).toUInt32))).getD 14 0) ^^^ (4294967295 : UInt32)) := ⟨_, rfl⟩
        have hl317 : v315.length = 16 := (congrArg List.length e316).trans (show List.length (((v0.set 12 ((v0.getD 12 0) ^^^ n.toUInt32)).set 13 (((v0.set 12 ((v0.getD 12 0) ^^^ n.toUInt32)).getD 13 0) ^^^ ((n >>> UInt64.ofNat 32).toUInt32))).set 14 ((((v0.set 12 ((v0.getD 12 0) ^^^ n.toUInt32)).set 13 (((v0.set 12 ((v0.getD 12 0) ^^^ n.toUInt32)).getD 13 0) ^^^ ((n >>> UInt64.ofNat 32).toUInt32))).getD 14 0) ^^^ (4294967295 : UInt32))) = _ from List.length_set.trans (show List.length ((v0.set 12 ((v0.getD 12 0) ^^^ n.toUInt32)).set 13 (((v0.set 12 ((v0.getD 12 0) ^^^ n.toUInt32)).getD 13 0) ^^^ ((n >>> UInt64.ofNat 32).toUInt32))) = _ from List.length_set.trans (show List.length (v0.set 12 ((v0.getD 12 0) ^^^ n.toUInt32)) = _ from List.length_set.trans hvl0)))
        rw [← e316] at b318
        have hv1 : v315 = begin_ h n last := by rw [e316, hv0, hc279]; rw [xor_all]; exact begin_true
        have b319 : Blk w307 g2 48 (u32Vals h) := ((((((b169.grownN hg252 (by omega)).grownN hg272 (by omega)).grownN hg290 (by omega)).ext hx295).ext hx302).grownN hg309 (by omega))
        have b320 : Blk w307 g10 48 (u32Vals (List.replicate 8 0)) := ((((((b170.grownN hg252 (by omega)).grownN hg272 (by omega)).grownN hg290 (by omega)).ext hx295).ext hx302).grownN hg309 (by omega))
        have b321 : Blk w307 g21 62 (u32Vals m) := ((((((b171.grownN hg252 (by omega)).grownN hg272 (by omega)).grownN hg290 (by omega)).ext hx295).ext hx302).grownN hg309 (by omega))
        have b322 : Blk w307 g143 48 (u32Vals iv) := ((((((b173.grownN hg252 (by omega)).grownN hg272 (by omega)).grownN hg290 (by omega)).ext hx295).ext hx302).grownN hg309 (by omega))
        refine wp_loop (fun a' W => ∃ (r : Nat) (v : List UInt32), Sl 182 [(0, (.agg (u32Vals h).toArray)), (1, (.slice A 64 c)), (2, (.int .u64 (n.toNat : Nat))), (3, (.bool last)), (4, (.pointer (some ⟨g2, 0, none⟩))), (8, (.pointer (some ⟨g10, 0, none⟩))), (9, (.pointer (some ⟨g21, 0, none⟩))), (10, (.int .i64 (k : Nat))), (22, (.bool (decide (((k : Nat) : Int) < (64 : Int))))), (11, (.pointer (some ⟨g125, 0, none⟩))), (12, (.pointer (some ⟨g143, 0, none⟩))), (13, (.int .i64 (k1 : Nat))), (45, (.bool (decide (((k1 : Nat) : Int) < (8 : Int))))), (72, (.bool last)), (14, (.pointer (some ⟨g299, 0, none⟩))), (15, (.int .i64 (r : Nat)))] a' ∧ r ≤ 10 ∧ v = roundTo m v315 r ∧ Ext w W ∧ Blk W g2 48 (u32Vals h) ∧ Blk W g10 48 (u32Vals (List.replicate 8 0)) ∧ Blk W g21 62 (u32Vals m) ∧ Blk W g125 62 (u32Vals v) ∧ Blk W g143 48 (u32Vals iv) ∧ Blk W g299 70 (intVals permI) ∧ w307.heap.size ≤ W.heap.size) (fun a' _ => 10 - (intOf (a'.eval (.tmp 15))).toNat) ⟨0, v315, ((((((((((((((((hF314.nil.cons (q_get hF314 (t := 15) rfl (by first | rfl | (congr 1; omega) | (congr 1; done)))).cons (q_get hF314 (t := 14) rfl rfl)).cons (q_get hF314 (t := 72) rfl rfl)).cons (q_get hF314 (t := 45) rfl rfl)).cons (q_get hF314 (t := 13) rfl rfl)).cons (q_get hF314 (t := 12) rfl rfl)).cons (q_get hF314 (t := 11) rfl rfl)).cons (q_get hF314 (t := 22) rfl rfl)).cons (q_get hF314 (t := 10) rfl rfl)).cons (q_get hF314 (t := 9) rfl rfl)).cons (q_get hF314 (t := 8) rfl rfl)).cons (q_get hF314 (t := 4) rfl rfl)).cons (q_get hF314 (t := 3) rfl rfl)).cons (q_get hF314 (t := 2) rfl rfl)).cons (q_get hF314 (t := 1) rfl rfl)).cons (q_get hF314 (t := 0) rfl rfl)), (by omega), rfl, ((((((((Ext.refl w).trans hx166).grownN hg252 (by omega)).grownN hg272 (by omega)).grownN hg290 (by omega)).trans hx295).trans hx302).grownN hg309 (by omega)), b319, b320, b321, b318, b322, b308, (Nat.le_refl _)⟩ ?_
        clear hF314
        rintro a323 w324 ⟨r, v, hF325, hp327, hp328, hx326, b329, b330, b331, b332, b333, b334, hf335⟩
        have hL336 := hF325
        have z337 := hx326.size
        have z338 := b329.lt
        have z339 := b330.lt
        have z340 := b331.lt
        have z341 := b332.lt
        have z342 := b333.lt
        have z343 := b334.lt
        have hvl : v.length = 16 := by rw [hp328]; exact roundTo_len hl317
        refine wp_seq_k (fun K344 hK344 => ?_)
        refine wp_seq_k (fun K345 hK345 => ?_)
        refine wp_region_lit ?_
        refine wpl_op (i := 0) rfl (o_val (v := (.int .i64 (r : Nat))) hF325 rfl rfl rfl rfl (rn_move (hF325.get rfl)) ?_)
        intro a346 hF347; clear hF325
        refine wpl_op (i := 1) rfl (o_val (v := (.bool (decide (((r : Nat) : Int) < (10 : Int))))) hF347 rfl rfl rfl rfl (rn_lss (hF347.get rfl) rfl) ?_)
        intro a348 hF349; clear hF347
        refine wpList_nil ?_
        refine hK345 _ _ ?_
        clear hK345
        by_cases hc350 : ((r : Nat) : Int) < (10 : Int)
        · skip
          refine wp_cond_true (c_true hF349 rfl (decide_eq_true hc350)) ?_
          refine wp_skip ?_
          refine hK344 _ _ ?_
          clear hK344
          refine wp_seq_k (fun K351 hK351 => ?_)
          refine wp_block ?_
          refine wp_seq_k (fun K352 hK352 => ?_)
          refine wp_region_lit ?_
          refine wpl_op (i := 0) rfl (o_val (v := (.int .i64 0)) hF349 rfl rfl rfl rfl (rn_assign rfl) ?_)
          intro a353 hF354; clear hF349
          refine wpList_nil ?_
          refine hK352 _ _ ?_
          clear hK352
          refine wp_block ?_
          refine wp_loop (fun a' W => ∃ (i2 : Nat) (v2 : List UInt32), Sl 182 [(0, (.agg (u32Vals h).toArray)), (1, (.slice A 64 c)), (2, (.int .u64 (n.toNat : Nat))), (3, (.bool last)), (4, (.pointer (some ⟨g2, 0, none⟩))), (8, (.pointer (some ⟨g10, 0, none⟩))), (9, (.pointer (some ⟨g21, 0, none⟩))), (10, (.int .i64 (k : Nat))), (22, (.bool (decide (((k : Nat) : Int) < (64 : Int))))), (11, (.pointer (some ⟨g125, 0, none⟩))), (12, (.pointer (some ⟨g143, 0, none⟩))), (13, (.int .i64 (k1 : Nat))), (45, (.bool (decide (((k1 : Nat) : Int) < (8 : Int))))), (72, (.bool last)), (14, (.pointer (some ⟨g299, 0, none⟩))), (15, (.int .i64 (r : Nat))), (79, (.bool (decide (((r : Nat) : Int) < (10 : Int))))), (16, (.int .i64 (i2 : Nat)))] a' ∧ i2 ≤ 8 ∧ v2 = mixTo m (permRow r) v i2 ∧ Ext w W ∧ Blk W g2 48 (u32Vals h) ∧ Blk W g10 48 (u32Vals (List.replicate 8 0)) ∧ Blk W g21 62 (u32Vals m) ∧ Blk W g125 62 (u32Vals v2) ∧ Blk W g143 48 (u32Vals iv) ∧ Blk W g299 70 (intVals permI) ∧ w324.heap.size ≤ W.heap.size) (fun a' _ => 8 - (intOf (a'.eval (.tmp 16))).toNat) ⟨0, v, ((((((((((((((((((hF354.nil.cons (q_get hF354 (t := 16) rfl (by first | rfl | (congr 1; omega) | (congr 1; done)))).cons (q_get hF354 (t := 79) rfl rfl)).cons (q_get hF354 (t := 15) rfl rfl)).cons (q_get hF354 (t := 14) rfl rfl)).cons (q_get hF354 (t := 72) rfl rfl)).cons (q_get hF354 (t := 45) rfl rfl)).cons (q_get hF354 (t := 13) rfl rfl)).cons (q_get hF354 (t := 12) rfl rfl)).cons (q_get hF354 (t := 11) rfl rfl)).cons (q_get hF354 (t := 22) rfl rfl)).cons (q_get hF354 (t := 10) rfl rfl)).cons (q_get hF354 (t := 9) rfl rfl)).cons (q_get hF354 (t := 8) rfl rfl)).cons (q_get hF354 (t := 4) rfl rfl)).cons (q_get hF354 (t := 3) rfl rfl)).cons (q_get hF354 (t := 2) rfl rfl)).cons (q_get hF354 (t := 1) rfl rfl)).cons (q_get hF354 (t := 0) rfl rfl)), (by omega), rfl, ((Ext.refl w).trans hx326), b329, b330, b331, b332, b333, b334, (Nat.le_refl _)⟩ ?_
          clear hF354
          rintro a355 w356 ⟨i2, v2, hF357, hp359, hp360, hx358, b361, b362, b363, b364, b365, b366, hf367⟩
          have hL368 := hF357
          have z369 := hx358.size
          have z370 := b361.lt
          have z371 := b362.lt
          have z372 := b363.lt
          have z373 := b364.lt
          have z374 := b365.lt
          have z375 := b366.lt
          have hvl2 : v2.length = 16 := by rw [hp360]; exact mixTo_len hvl
          refine wp_seq_k (fun K376 hK376 => ?_)
          refine wp_seq_k (fun K377 hK377 => ?_)
          refine wp_region_lit ?_
          refine wpl_op (i := 0) rfl (o_val (v := (.int .i64 (i2 : Nat))) hF357 rfl rfl rfl rfl (rn_move (hF357.get rfl)) ?_)
          intro a378 hF379; clear hF357
          refine wpl_op (i := 1) rfl (o_val (v := (.bool (decide (((i2 : Nat) : Int) < (8 : Int))))) hF379 rfl rfl rfl rfl (rn_lss (hF379.get rfl) rfl) ?_)
          intro a380 hF381; clear hF379
          refine wpList_nil ?_
          refine hK377 _ _ ?_
          clear hK377
          by_cases hc382 : ((i2 : Nat) : Int) < (8 : Int)
          · skip
            refine wp_cond_true (c_true hF381 rfl (decide_eq_true hc382)) ?_
            refine wp_skip ?_
            refine hK376 _ _ ?_
            clear hK376
            refine wp_seq_k (fun K383 hK383 => ?_)
            refine wp_block ?_
            refine wp_seq_k (fun K384 hK384 => ?_)
            refine wp_region_lit ?_
            refine wpl_op (i := 0) rfl (o_val (v := (.int .i64 (i2 : Nat))) hF381 rfl rfl rfl rfl (rn_move (hF381.get rfl)) ?_)
            intro a385 hF386; clear hF381
            refine wpl_op (i := 1) rfl (o_val (v := (.int .i64 (i2 % 4 : Nat))) hF386 rfl rfl rfl rfl (rn_remN (a := i2) (b := 4) (hF386.get rfl) rfl (by omega)) ?_)
            intro a387 hF388; clear hF386
            refine wpl_op (i := 2) rfl (o_val (v := (.int .i64 (i2 % 4 : Nat))) hF388 rfl rfl rfl rfl (rn_assign (hF388.get rfl)) ?_)
            intro a389 hF390; clear hF388
            refine wpList_nil ?_
            refine hK384 _ _ ?_
            clear hK384
            refine wp_seq_k (fun K391 hK391 => ?_)
            refine wp_region_lit ?_
            refine wpl_op (i := 0) rfl (o_val (v := (.int .i64 (i2 % 4 : Nat))) hF390 rfl rfl rfl rfl (rn_move (hF390.get rfl)) ?_)
            intro a392 hF393; clear hF390
            refine wpl_op (i := 1) rfl (o_val (v := (.int .i64 (i2 % 4 : Nat))) hF393 rfl rfl rfl rfl (rn_move (hF393.get rfl)) ?_)
            intro a394 hF395; clear hF393
            refine wpl_op (i := 2) rfl (o_val (v := (.int .i64 (4 + (i2 % 4) : Nat))) hF395 rfl rfl rfl rfl (rn_addN (a := 4) (b := i2 % 4) rfl (hF395.get rfl) (by omega)) ?_)
            intro a396 hF397; clear hF395
            refine wpl_op (i := 3) rfl (o_val (v := (.int .i64 (i2 % 4 : Nat))) hF397 rfl rfl rfl rfl (rn_move (hF397.get rfl)) ?_)
            intro a398 hF399; clear hF397
            refine wpl_op (i := 4) rfl (o_val (v := (.int .i64 (8 + (i2 % 4) : Nat))) hF399 rfl rfl rfl rfl (rn_addN (a := 8) (b := i2 % 4) rfl (hF399.get rfl) (by omega)) ?_)
            intro a400 hF401; clear hF399
            refine wpl_op (i := 5) rfl (o_val (v := (.int .i64 (i2 % 4 : Nat))) hF401 rfl rfl rfl rfl (rn_move (hF401.get rfl)) ?_)
            intro a402 hF403; clear hF401
            refine wpl_op (i := 6) rfl (o_val (v := (.int .i64 (12 + (i2 % 4) : Nat))) hF403 rfl rfl rfl rfl (rn_addN (a := 12) (b := i2 % 4) rfl (hF403.get rfl) (by omega)) ?_)
            intro a404 hF405; clear hF403
            refine wpl_op (i := 7) rfl (o_val (v := (.agg (intVals ([((i2 % 4 : Nat) : Int), ((4 + (i2 % 4) : Nat) : Int), ((8 + (i2 % 4) : Nat) : Int), ((12 + (i2 % 4) : Nat) : Int)])).toArray)) hF405 rfl rfl rfl rfl (rn_build (parts4 (hF405.get rfl) (hF405.get rfl) (hF405.get rfl) (hF405.get rfl)) (by kernel_rfl)) ?_)
            intro a406 hF407; clear hF405
            refine wpl_op (i := 8) rfl (o_new (fun g => (.pointer (some ⟨g, 0, none⟩))) (intVals (List.replicate 4 0)) 72 hF407 rfl rfl rfl rfl (by kernel_rfl) ?_)
            intro g408 w409 a414 hF415 z412 z413 b410 hx411; clear hF407
            refine wpl_op (i := 9) rfl (o_store (cells := (intVals ([((i2 % 4 : Nat) : Int), ((4 + (i2 % 4) : Nat) : Int), ((8 + (i2 % 4) : Nat) : Int), ((12 + (i2 % 4) : Nat) : Int)]))) hF415 rfl rfl rfl rfl (hF415.get rfl) (hF415.get rfl) b410 ((by kernel_rfl : (Tryd.prog.info? 72).map (·.size) = some 4).trans (congrArg some (intVals_len (show List.length [((i2 % 4 : Nat) : Int), ((4 + (i2 % 4) : Nat) : Int), ((8 + (i2 % 4) : Nat) : Int), ((12 + (i2 % 4) : Nat) : Int)] = 4 from rfl)).symm)) ((intVals_len (show List.length (List.replicate 4 0) = _ from List.length_replicate)).trans (intVals_len (show List.length [((i2 % 4 : Nat) : Int), ((4 + (i2 % 4) : Nat) : Int), ((8 + (i2 % 4) : Nat) : Int), ((12 + (i2 % 4) : Nat) : Int)] = 4 from rfl)).symm) (intVals_one _) ?_)
            intro w416 b417 hg418; have z419 := hg418.size
            refine wpList_nil ?_
            refine hK391 _ _ ?_
            clear hK391
            have hF420 := (((((((((((((((((((((hF415.nil.cons (hF415.get (t := 18) (v := (.pointer (some ⟨g408, 0, none⟩))) rfl)).cons (hF415.get (t := 17) (v := (.int .i64 (i2 % 4 : Nat))) rfl)).cons (hF415.get (t := 83) (v := (.bool (decide (((i2 : Nat) : Int) < (8 : Int))))) rfl)).cons (hF415.get (t := 16) (v := (.int .i64 (i2 : Nat))) rfl)).cons (hF415.get (t := 79) (v := (.bool (decide (((r : Nat) : Int) < (10 : Int))))) rfl)).cons (hF415.get (t := 15) (v := (.int .i64 (r : Nat))) rfl)).cons (hF415.get (t := 14) (v := (.pointer (some ⟨g299, 0, none⟩))) rfl)).cons (hF415.get (t := 72) (v := (.bool last)) rfl)).cons (hF415.get (t := 45) (v := (.bool (decide (((k1 : Nat) : Int) < (8 : Int))))) rfl)).cons (hF415.get (t := 13) (v := (.int .i64 (k1 : Nat))) rfl)).cons (hF415.get (t := 12) (v := (.pointer (some ⟨g143, 0, none⟩))) rfl)).cons (hF415.get (t := 11) (v := (.pointer (some ⟨g125, 0, none⟩))) rfl)).cons (hF415.get (t := 22) (v := (.bool (decide (((k : Nat) : Int) < (64 : Int))))) rfl)).cons (hF415.get (t := 10) (v := (.int .i64 (k : Nat))) rfl)).cons (hF415.get (t := 9) (v := (.pointer (some ⟨g21, 0, none⟩))) rfl)).cons (hF415.get (t := 8) (v := (.pointer (some ⟨g10, 0, none⟩))) rfl)).cons (hF415.get (t := 4) (v := (.pointer (some ⟨g2, 0, none⟩))) rfl)).cons (hF415.get (t := 3) (v := (.bool last)) rfl)).cons (hF415.get (t := 2) (v := (.int .u64 (n.toNat : Nat))) rfl)).cons (hF415.get (t := 1) (v := (.slice A 64 c)) rfl)).cons (hF415.get (t := 0) (v := (.agg (u32Vals h).toArray)) rfl))
            clear hF415
            refine wp_meet (fun a' W => ∃ (pa pb pc pd : Nat), Sl 182 [(0, (.agg (u32Vals h).toArray)), (1, (.slice A 64 c)), (2, (.int .u64 (n.toNat : Nat))), (3, (.bool last)), (4, (.pointer (some ⟨g2, 0, none⟩))), (8, (.pointer (some ⟨g10, 0, none⟩))), (9, (.pointer (some ⟨g21, 0, none⟩))), (10, (.int .i64 (k : Nat))), (22, (.bool (decide (((k : Nat) : Int) < (64 : Int))))), (11, (.pointer (some ⟨g125, 0, none⟩))), (12, (.pointer (some ⟨g143, 0, none⟩))), (13, (.int .i64 (k1 : Nat))), (45, (.bool (decide (((k1 : Nat) : Int) < (8 : Int))))), (72, (.bool last)), (14, (.pointer (some ⟨g299, 0, none⟩))), (15, (.int .i64 (r : Nat))), (79, (.bool (decide (((r : Nat) : Int) < (10 : Int))))), (16, (.int .i64 (i2 : Nat))), (83, (.bool (decide (((i2 : Nat) : Int) < (8 : Int))))), (17, (.int .i64 (i2 % 4 : Nat))), (18, (.pointer (some ⟨g408, 0, none⟩)))] a' ∧ Ext w W ∧ Blk W g2 48 (u32Vals h) ∧ Blk W g10 48 (u32Vals (List.replicate 8 0)) ∧ Blk W g21 62 (u32Vals m) ∧ Blk W g125 62 (u32Vals v2) ∧ Blk W g143 48 (u32Vals iv) ∧ Blk W g299 70 (intVals permI) ∧ Blk W g408 72 (intVals [((pa : Nat) : Int), ((pb : Nat) : Int), ((pc : Nat) : Int), ((pd : Nat) : Int)]) ∧ ((i2 < 4 ∧ pa = i2 % 4 ∧ pb = 4 + i2 % 4 ∧ pc = 8 + i2 % 4 ∧ pd = 12 + i2 % 4) ∨ (¬ i2 < 4 ∧ pa = i2 % 4 ∧ pb = 4 + (i2 % 4 + 1) % 4 ∧ pc = 8 + (i2 % 4 + 2) % 4 ∧ pd = 12 + (i2 % 4 + 3) % 4)) ∧ w416.heap.size ≤ W.heap.size) ?_ ?_
            · skip
              refine wp_seq_k (fun K421 hK421 => ?_)
              refine wp_region_lit ?_
              refine wpl_op (i := 0) rfl (o_val (v := (.int .i64 (i2 : Nat))) hF420 rfl rfl rfl rfl (rn_move (hF420.get rfl)) ?_)
              intro a422 hF423; clear hF420
              refine wpl_op (i := 1) rfl (o_val (v := (.bool (decide ((4 : Int) ≤ ((i2 : Nat) : Int))))) hF423 rfl rfl rfl rfl (rn_geq (hF423.get rfl) rfl) ?_)
              intro a424 hF425; clear hF423
              refine wpList_nil ?_
              refine hK421 _ _ ?_
              clear hK421
              by_cases hc426 : (4 : Int) ≤ ((i2 : Nat) : Int)
              · skip
                refine wp_cond_true (c_true hF425 rfl (decide_eq_true hc426)) ?_
                refine wp_region_lit ?_
                refine wpl_op (i := 0) rfl (o_val (v := (.int .i64 (i2 % 4 : Nat))) hF425 rfl rfl rfl rfl (rn_move (hF425.get rfl)) ?_)
                intro a427 hF428; clear hF425
                refine wpl_op (i := 1) rfl (o_val (v := (.int .i64 (i2 % 4 : Nat))) hF428 rfl rfl rfl rfl (rn_move (hF428.get rfl)) ?_)
                intro a429 hF430; clear hF428
                refine wpl_op (i := 2) rfl (o_val (v := (.int .i64 ((i2 % 4) + 1 : Nat))) hF430 rfl rfl rfl rfl (rn_addN (a := i2 % 4) (b := 1) (hF430.get rfl) rfl (by omega)) ?_)
                intro a431 hF432; clear hF430
                refine wpl_op (i := 3) rfl (o_val (v := (.int .i64 (((i2 % 4) + 1) % 4 : Nat))) hF432 rfl rfl rfl rfl (rn_remN (a := (i2 % 4) + 1) (b := 4) (hF432.get rfl) rfl (by omega)) ?_)
                intro a433 hF434; clear hF432
                refine wpl_op (i := 4) rfl (o_val (v := (.int .i64 (4 + (((i2 % 4) + 1) % 4) : Nat))) hF434 rfl rfl rfl rfl (rn_addN (a := 4) (b := ((i2 % 4) + 1) % 4) rfl (hF434.get rfl) (by omega)) ?_)
                intro a435 hF436; clear hF434
                refine wpl_op (i := 5) rfl (o_val (v := (.int .i64 (i2 % 4 : Nat))) hF436 rfl rfl rfl rfl (rn_move (hF436.get rfl)) ?_)
                intro a437 hF438; clear hF436
                refine wpl_op (i := 6) rfl (o_val (v := (.int .i64 ((i2 % 4) + 2 : Nat))) hF438 rfl rfl rfl rfl (rn_addN (a := i2 % 4) (b := 2) (hF438.get rfl) rfl (by omega)) ?_)
                intro a439 hF440; clear hF438
                refine wpl_op (i := 7) rfl (o_val (v := (.int .i64 (((i2 % 4) + 2) % 4 : Nat))) hF440 rfl rfl rfl rfl (rn_remN (a := (i2 % 4) + 2) (b := 4) (hF440.get rfl) rfl (by omega)) ?_)
                intro a441 hF442; clear hF440
                refine wpl_op (i := 8) rfl (o_val (v := (.int .i64 (8 + (((i2 % 4) + 2) % 4) : Nat))) hF442 rfl rfl rfl rfl (rn_addN (a := 8) (b := ((i2 % 4) + 2) % 4) rfl (hF442.get rfl) (by omega)) ?_)
                intro a443 hF444; clear hF442
                refine wpl_op (i := 9) rfl (o_val (v := (.int .i64 (i2 % 4 : Nat))) hF444 rfl rfl rfl rfl (rn_move (hF444.get rfl)) ?_)
                intro a445 hF446; clear hF444
                refine wpl_op (i := 10) rfl (o_val (v := (.int .i64 ((i2 % 4) + 3 : Nat))) hF446 rfl rfl rfl rfl (rn_addN (a := i2 % 4) (b := 3) (hF446.get rfl) rfl (by omega)) ?_)
                intro a447 hF448; clear hF446
                refine wpl_op (i := 11) rfl (o_val (v := (.int .i64 (((i2 % 4) + 3) % 4 : Nat))) hF448 rfl rfl rfl rfl (rn_remN (a := (i2 % 4) + 3) (b := 4) (hF448.get rfl) rfl (by omega)) ?_)
                intro a449 hF450; clear hF448
                refine wpl_op (i := 12) rfl (o_val (v := (.int .i64 (12 + (((i2 % 4) + 3) % 4) : Nat))) hF450 rfl rfl rfl rfl (rn_addN (a := 12) (b := ((i2 % 4) + 3) % 4) rfl (hF450.get rfl) (by omega)) ?_)
                intro a451 hF452; clear hF450
                refine wpl_op (i := 13) rfl (o_val (v := (.agg (intVals ([((i2 % 4 : Nat) : Int), ((4 + (((i2 % 4) + 1) % 4) : Nat) : Int), ((8 + (((i2 % 4) + 2) % 4) : Nat) : Int), ((12 + (((i2 % 4) + 3) % 4) : Nat) : Int)])).toArray)) hF452 rfl rfl rfl rfl (rn_build (parts4 (hF452.get rfl) (hF452.get rfl) (hF452.get rfl) (hF452.get rfl)) (by kernel_rfl)) ?_)
                intro a453 hF454; clear hF452
                refine wpl_op (i := 14) rfl (o_store (cells := (intVals ([((i2 % 4 : Nat) : Int), ((4 + (((i2 % 4) + 1) % 4) : Nat) : Int), ((8 + (((i2 % 4) + 2) % 4) : Nat) : Int), ((12 + (((i2 % 4) + 3) % 4) : Nat) : Int)]))) hF454 rfl rfl rfl rfl (hF454.get rfl) (hF454.get rfl) b417 ((by kernel_rfl : (Tryd.prog.info? 72).map (·.size) = some 4).trans (congrArg some (intVals_len (show List.length [((i2 % 4 : Nat) : Int), ((4 + (((i2 % 4) + 1) % 4) : Nat) : Int), ((8 + (((i2 % 4) + 2) % 4) : Nat) : Int), ((12 + (((i2 % 4) + 3) % 4) : Nat) : Int)] = 4 from rfl)).symm)) ((intVals_len (show List.length [((i2 % 4 : Nat) : Int), ((4 + (i2 % 4) : Nat) : Int), ((8 + (i2 % 4) : Nat) : Int), ((12 + (i2 % 4) : Nat) : Int)] = 4 from rfl)).trans (intVals_len (show List.length [((i2 % 4 : Nat) : Int), ((4 + (((i2 % 4) + 1) % 4) : Nat) : Int), ((8 + (((i2 % 4) + 2) % 4) : Nat) : Int), ((12 + (((i2 % 4) + 3) % 4) : Nat) : Int)] = 4 from rfl)).symm) (intVals_one _) ?_)
                intro w455 b456 hg457; have z458 := hg457.size
                refine wpList_nil ?_
                have b459 : Blk w455 g2 48 (u32Vals h) := (((b361.ext hx411).grownN hg418 (by omega)).grownN hg457 (by omega))
                have b460 : Blk w455 g10 48 (u32Vals (List.replicate 8 0)) := (((b362.ext hx411).grownN hg418 (by omega)).grownN hg457 (by omega))
                have b461 : Blk w455 g21 62 (u32Vals m) := (((b363.ext hx411).grownN hg418 (by omega)).grownN hg457 (by omega))
                have b462 : Blk w455 g125 62 (u32Vals v2) := (((b364.ext hx411).grownN hg418 (by omega)).grownN hg457 (by omega))
                have b463 : Blk w455 g143 48 (u32Vals iv) := (((b365.ext hx411).grownN hg418 (by omega)).grownN hg457 (by omega))
                have b464 : Blk w455 g299 70 (intVals permI) := (((b366.ext hx411).grownN hg418 (by omega)).grownN hg457 (by omega))
                exact ⟨i2 % 4, 4 + (((i2 % 4) + 1) % 4), 8 + (((i2 % 4) + 2) % 4), 12 + (((i2 % 4) + 3) % 4), (((((((((((((((((((((hF454.nil.cons (hF454.get (t := 18) (v := (.pointer (some ⟨g408, 0, none⟩))) rfl)).cons (hF454.get (t := 17) (v := (.int .i64 (i2 % 4 : Nat))) rfl)).cons (hF454.get (t := 83) (v := (.bool (decide (((i2 : Nat) : Int) < (8 : Int))))) rfl)).cons (hF454.get (t := 16) (v := (.int .i64 (i2 : Nat))) rfl)).cons (hF454.get (t := 79) (v := (.bool (decide (((r : Nat) : Int) < (10 : Int))))) rfl)).cons (hF454.get (t := 15) (v := (.int .i64 (r : Nat))) rfl)).cons (hF454.get (t := 14) (v := (.pointer (some ⟨g299, 0, none⟩))) rfl)).cons (hF454.get (t := 72) (v := (.bool last)) rfl)).cons (hF454.get (t := 45) (v := (.bool (decide (((k1 : Nat) : Int) < (8 : Int))))) rfl)).cons (hF454.get (t := 13) (v := (.int .i64 (k1 : Nat))) rfl)).cons (hF454.get (t := 12) (v := (.pointer (some ⟨g143, 0, none⟩))) rfl)).cons (hF454.get (t := 11) (v := (.pointer (some ⟨g125, 0, none⟩))) rfl)).cons (hF454.get (t := 22) (v := (.bool (decide (((k : Nat) : Int) < (64 : Int))))) rfl)).cons (hF454.get (t := 10) (v := (.int .i64 (k : Nat))) rfl)).cons (hF454.get (t := 9) (v := (.pointer (some ⟨g21, 0, none⟩))) rfl)).cons (hF454.get (t := 8) (v := (.pointer (some ⟨g10, 0, none⟩))) rfl)).cons (hF454.get (t := 4) (v := (.pointer (some ⟨g2, 0, none⟩))) rfl)).cons (hF454.get (t := 3) (v := (.bool last)) rfl)).cons (hF454.get (t := 2) (v := (.int .u64 (n.toNat : Nat))) rfl)).cons (hF454.get (t := 1) (v := (.slice A 64 c)) rfl)).cons (hF454.get (t := 0) (v := (.agg (u32Vals h).toArray)) rfl)), (((((Ext.refl w).trans hx358).trans hx411).grownN hg418 (by omega)).grownN hg457 (by omega)), b459, b460, b461, b462, b463, b464, b456, (by omega), (by omega)⟩
              · skip
                refine wp_cond_false (c_false hF425 rfl (decide_eq_false hc426)) ?_
                refine wp_skip ?_
                have b465 : Blk w416 g2 48 (u32Vals h) := ((b361.ext hx411).grownN hg418 (by omega))
                have b466 : Blk w416 g10 48 (u32Vals (List.replicate 8 0)) := ((b362.ext hx411).grownN hg418 (by omega))
                have b467 : Blk w416 g21 62 (u32Vals m) := ((b363.ext hx411).grownN hg418 (by omega))
                have b468 : Blk w416 g125 62 (u32Vals v2) := ((b364.ext hx411).grownN hg418 (by omega))
                have b469 : Blk w416 g143 48 (u32Vals iv) := ((b365.ext hx411).grownN hg418 (by omega))
                have b470 : Blk w416 g299 70 (intVals permI) := ((b366.ext hx411).grownN hg418 (by omega))
                exact ⟨i2 % 4, 4 + (i2 % 4), 8 + (i2 % 4), 12 + (i2 % 4), (((((((((((((((((((((hF425.nil.cons (hF425.get (t := 18) (v := (.pointer (some ⟨g408, 0, none⟩))) rfl)).cons (hF425.get (t := 17) (v := (.int .i64 (i2 % 4 : Nat))) rfl)).cons (hF425.get (t := 83) (v := (.bool (decide (((i2 : Nat) : Int) < (8 : Int))))) rfl)).cons (hF425.get (t := 16) (v := (.int .i64 (i2 : Nat))) rfl)).cons (hF425.get (t := 79) (v := (.bool (decide (((r : Nat) : Int) < (10 : Int))))) rfl)).cons (hF425.get (t := 15) (v := (.int .i64 (r : Nat))) rfl)).cons (hF425.get (t := 14) (v := (.pointer (some ⟨g299, 0, none⟩))) rfl)).cons (hF425.get (t := 72) (v := (.bool last)) rfl)).cons (hF425.get (t := 45) (v := (.bool (decide (((k1 : Nat) : Int) < (8 : Int))))) rfl)).cons (hF425.get (t := 13) (v := (.int .i64 (k1 : Nat))) rfl)).cons (hF425.get (t := 12) (v := (.pointer (some ⟨g143, 0, none⟩))) rfl)).cons (hF425.get (t := 11) (v := (.pointer (some ⟨g125, 0, none⟩))) rfl)).cons (hF425.get (t := 22) (v := (.bool (decide (((k : Nat) : Int) < (64 : Int))))) rfl)).cons (hF425.get (t := 10) (v := (.int .i64 (k : Nat))) rfl)).cons (hF425.get (t := 9) (v := (.pointer (some ⟨g21, 0, none⟩))) rfl)).cons (hF425.get (t := 8) (v := (.pointer (some ⟨g10, 0, none⟩))) rfl)).cons (hF425.get (t := 4) (v := (.pointer (some ⟨g2, 0, none⟩))) rfl)).cons (hF425.get (t := 3) (v := (.bool last)) rfl)).cons (hF425.get (t := 2) (v := (.int .u64 (n.toNat : Nat))) rfl)).cons (hF425.get (t := 1) (v := (.slice A 64 c)) rfl)).cons (hF425.get (t := 0) (v := (.agg (u32Vals h).toArray)) rfl)), ((((Ext.refl w).trans hx358).trans hx411).grownN hg418 (by omega)), b465, b466, b467, b468, b469, b470, b417, (by omega), (by omega)⟩
            · rintro a471 w472 ⟨pa, pb, pc, pd, hF473, hx474, b477, b478, b479, b480, b481, b482, b483, pm475, z476⟩
              clear hF420
              have z484 := b477.lt
              have z485 := b478.lt
              have z486 := b479.lt
              have z487 := b480.lt
              have z488 := b481.lt
              have z489 := b482.lt
              have z490 := b483.lt
              have z491 := permRow_lt (r := r) (by omega) (j := 2 * i2) (by omega); have z492 := permRow_lt (r := r) (by omega) (j := 2 * i2 + 1) (by omega)
              have hx494 : ∃ W, w472.drew = W ∧ Ext w472 W := ⟨_, rfl, (Ext.refl _).drew⟩
              obtain ⟨w493, e495, hx494⟩ := hx494
              have z496 := hx494.size
              refine anyg_start (fun W => Ext w493 W ∧ Blk W g408 72 (intVals [((pa : Nat) : Int), ((pb : Nat) : Int), ((pc : Nat) : Int), ((pd : Nat) : Int)]) ∧ Blk W g125 62 (u32Vals v2) ∧ Blk W g299 70 (intVals permI) ∧ Blk W g21 62 (u32Vals m)) (fun i => i == 48 || i == 50 || i == 52 || i == 54) (fun W => Blk W g408 72 (intVals [((pa : Nat) : Int), ((pb : Nat) : Int), ((pc : Nat) : Int), ((pd : Nat) : Int)]) ∧ Blk W g299 70 (intVals permI) ∧ Blk W g21 62 (u32Vals m)) 55 #[false, false, false, false, false, false, false, false, false, false, false, false, false, false, false, false, false, false, false, false, false, false, false, false, false, false, false, false, false, false, false, false, false, false, false, false, false, false, false, false, false, false, false, false, false, false, false, false, false, false, false, false, false, false, false] rfl rfl rfl ?_
              rw [e495]; clear e495
              refine anyg_pure (i := 0) (v := (.pointer (some ⟨g408, 0 + 0, none⟩))) hF473 (by decide +kernel) (by decide +kernel) rfl rfl rfl rfl (fun _ _ _ _ h => h) rfl (fun W => (rn_indexArr Tryd.underlying72 (by kernel_rfl : (Tryd.prog.info? 3).map (·.size) = some 1) (hF473.get rfl) rfl (by omega : (0 : Int) ≤ 0) (by omega : (0 : Int) < ((4 : Nat) : Int)))) ?_
              intro a497 hF498; clear hF473
              have b500 : Blk w493 g408 72 (intVals [((pa : Nat) : Int), ((pb : Nat) : Int), ((pc : Nat) : Int), ((pd : Nat) : Int)]) := (b483.ext hx494)
              have b501 : Blk w493 g125 62 (u32Vals v2) := (b480.ext hx494)
              have b502 : Blk w493 g299 70 (intVals permI) := (b482.ext hx494)
              have b503 : Blk w493 g21 62 (u32Vals m) := (b479.ext hx494)
              have hS499 : Ext w493 w493 ∧ Blk w493 g408 72 (intVals [((pa : Nat) : Int), ((pb : Nat) : Int), ((pc : Nat) : Int), ((pd : Nat) : Int)]) ∧ Blk w493 g125 62 (u32Vals v2) ∧ Blk w493 g299 70 (intVals permI) ∧ Blk w493 g21 62 (u32Vals m) := ⟨(Ext.refl w493), b500, b501, b502, b503⟩
              refine anyg_val (i := 1) (v := (.int .i64 (pa : Nat))) hF498 (by decide +kernel) (by decide +kernel) rfl rfl rfl rfl (fun _ _ _ _ h => h) rfl hS499 (fun W hW => (rn_load (isAgg_no Tryd.underlying3 rfl) (hF498.get rfl) (blk_intVals hW.2.1 (by omega) (show 0 < 4 from by decide)))) ?_
              intro a504 hF505; clear hF498
              refine anyg_pure (i := 2) (v := (.pointer (some ⟨g408, 0 + 1, none⟩))) hF505 (by decide +kernel) (by decide +kernel) rfl rfl rfl rfl (fun _ _ _ _ h => h) rfl (fun W => (rn_indexArr Tryd.underlying72 (by kernel_rfl : (Tryd.prog.info? 3).map (·.size) = some 1) (hF505.get rfl) rfl (by omega : (0 : Int) ≤ 1) (by omega : (1 : Int) < ((4 : Nat) : Int)))) ?_
              intro a506 hF507; clear hF505
              have hS508 : Blk w493 g408 72 (intVals [((pa : Nat) : Int), ((pb : Nat) : Int), ((pc : Nat) : Int), ((pd : Nat) : Int)]) ∧ Blk w493 g299 70 (intVals permI) ∧ Blk w493 g21 62 (u32Vals m) := ⟨b500, b502, b503⟩
              refine anyg_val2 (i := 3) (v := (.int .i64 (pb : Nat))) hF507 (by decide +kernel) (by decide +kernel) rfl rfl rfl rfl (fun _ _ _ _ h => h) rfl hS508 (fun W hW => (rn_load (isAgg_no Tryd.underlying3 rfl) (hF507.get rfl) (blk_intVals hW.1 (by omega) (show 1 < 4 from by decide)))) ?_
              intro a509 hF510; clear hF507
              refine anyg_pure (i := 4) (v := (.pointer (some ⟨g408, 0 + 2, none⟩))) hF510 (by decide +kernel) (by decide +kernel) rfl rfl rfl rfl (fun _ _ _ _ h => h) rfl (fun W => (rn_indexArr Tryd.underlying72 (by kernel_rfl : (Tryd.prog.info? 3).map (·.size) = some 1) (hF510.get rfl) rfl (by omega : (0 : Int) ≤ 2) (by omega : (2 : Int) < ((4 : Nat) : Int)))) ?_
              intro a511 hF512; clear hF510
              have hS513 : Blk w493 g408 72 (intVals [((pa : Nat) : Int), ((pb : Nat) : Int), ((pc : Nat) : Int), ((pd : Nat) : Int)]) ∧ Blk w493 g299 70 (intVals permI) ∧ Blk w493 g21 62 (u32Vals m) := ⟨b500, b502, b503⟩
              refine anyg_val2 (i := 5) (v := (.int .i64 (pc : Nat))) hF512 (by decide +kernel) (by decide +kernel) rfl rfl rfl rfl (fun _ _ _ _ h => h) rfl hS513 (fun W hW => (rn_load (isAgg_no Tryd.underlying3 rfl) (hF512.get rfl) (blk_intVals hW.1 (by omega) (show 2 < 4 from by decide)))) ?_
              intro a514 hF515; clear hF512
              refine anyg_pure (i := 6) (v := (.pointer (some ⟨g408, 0 + 3, none⟩))) hF515 (by decide +kernel) (by decide +kernel) rfl rfl rfl rfl (fun _ _ _ _ h => h) rfl (fun W => (rn_indexArr Tryd.underlying72 (by kernel_rfl : (Tryd.prog.info? 3).map (·.size) = some 1) (hF515.get rfl) rfl (by omega : (0 : Int) ≤ 3) (by omega : (3 : Int) < ((4 : Nat) : Int)))) ?_
              intro a516 hF517; clear hF515
              have hS518 : Blk w493 g408 72 (intVals [((pa : Nat) : Int), ((pb : Nat) : Int), ((pc : Nat) : Int), ((pd : Nat) : Int)]) ∧ Blk w493 g299 70 (intVals permI) ∧ Blk w493 g21 62 (u32Vals m) := ⟨b500, b502, b503⟩
              refine anyg_val2 (i := 7) (v := (.int .i64 (pd : Nat))) hF517 (by decide +kernel) (by decide +kernel) rfl rfl rfl rfl (fun _ _ _ _ h => h) rfl hS518 (fun W hW => (rn_load (isAgg_no Tryd.underlying3 rfl) (hF517.get rfl) (blk_intVals hW.1 (by omega) (show 3 < 4 from by decide)))) ?_
              intro a519 hF520; clear hF517
              refine anyg_pure (i := 8) (v := (.pointer (some ⟨g408, 0 + 0, none⟩))) hF520 (by decide +kernel) (by decide +kernel) rfl rfl rfl rfl (fun _ _ _ _ h => h) rfl (fun W => (rn_indexArr Tryd.underlying72 (by kernel_rfl : (Tryd.prog.info? 3).map (·.size) = some 1) (hF520.get rfl) rfl (by omega : (0 : Int) ≤ 0) (by omega : (0 : Int) < ((4 : Nat) : Int)))) ?_
              intro a521 hF522; clear hF520
              refine anyg_val (i := 9) (v := (.int .i64 (pa : Nat))) hF522 (by decide +kernel) (by decide +kernel) rfl rfl rfl rfl (fun _ _ _ _ h => h) rfl hS499 (fun W hW => (rn_load (isAgg_no Tryd.underlying3 rfl) (hF522.get rfl) (blk_intVals hW.2.1 (by omega) (show 0 < 4 from by decide)))) ?_
              intro a523 hF524; clear hF522
              refine anyg_pure (i := 10) (v := (.pointer (some ⟨g125, 0 + pa, none⟩))) hF524 (by decide +kernel) (by decide +kernel) rfl rfl rfl rfl (fun _ _ _ _ h => h) rfl (fun W => (rn_indexArr Tryd.underlying62 (by kernel_rfl : (Tryd.prog.info? 47).map (·.size) = some 1) (hF524.get rfl) (hF524.get rfl) (by omega : (0 : Int) ≤ (pa : Nat)) (by omega : ((pa : Nat) : Int) < ((16 : Nat) : Int)))) ?_
              intro a525 hF526; clear hF524
              refine anyg_val (i := 11) (v := (.int .u32 ((v2.getD pa 0).toNat : Nat))) hF526 (by decide +kernel) (by decide +kernel) rfl rfl rfl rfl (fun _ _ _ _ h => h) rfl hS499 (fun W hW => (rn_load (isAgg_no Tryd.underlying47 rfl) (hF526.get rfl) (blk_word hW.2.2.1 (by omega) (by have := (show List.length v2 = _ from hvl2); omega)))) ?_
              intro a527 hF528; clear hF526
              refine anyg_pure (i := 12) (v := (.pointer (some ⟨g408, 0 + 1, none⟩))) hF528 (by decide +kernel) (by decide +kernel) rfl rfl rfl rfl (fun _ _ _ _ h => h) rfl (fun W => (rn_indexArr Tryd.underlying72 (by kernel_rfl : (Tryd.prog.info? 3).map (·.size) = some 1) (hF528.get rfl) rfl (by omega : (0 : Int) ≤ 1) (by omega : (1 : Int) < ((4 : Nat) : Int)))) ?_
              intro a529 hF530; clear hF528
              refine anyg_val (i := 13) (v := (.int .i64 (pb : Nat))) hF530 (by decide +kernel) (by decide +kernel) rfl rfl rfl rfl (fun _ _ _ _ h => h) rfl hS499 (fun W hW => (rn_load (isAgg_no Tryd.underlying3 rfl) (hF530.get rfl) (blk_intVals hW.2.1 (by omega) (show 1 < 4 from by decide)))) ?_
              intro a531 hF532; clear hF530
              refine anyg_pure (i := 14) (v := (.pointer (some ⟨g125, 0 + pb, none⟩))) hF532 (by decide +kernel) (by decide +kernel) rfl rfl rfl rfl (fun _ _ _ _ h => h) rfl (fun W => (rn_indexArr Tryd.underlying62 (by kernel_rfl : (Tryd.prog.info? 47).map (·.size) = some 1) (hF532.get rfl) (hF532.get rfl) (by omega : (0 : Int) ≤ (pb : Nat)) (by omega : ((pb : Nat) : Int) < ((16 : Nat) : Int)))) ?_
              intro a533 hF534; clear hF532
              refine anyg_val (i := 15) (v := (.int .u32 ((v2.getD pb 0).toNat : Nat))) hF534 (by decide +kernel) (by decide +kernel) rfl rfl rfl rfl (fun _ _ _ _ h => h) rfl hS499 (fun W hW => (rn_load (isAgg_no Tryd.underlying47 rfl) (hF534.get rfl) (blk_word hW.2.2.1 (by omega) (by have := (show List.length v2 = _ from hvl2); omega)))) ?_
              intro a535 hF536; clear hF534
              refine anyg_pure (i := 16) (v := (.pointer (some ⟨g408, 0 + 2, none⟩))) hF536 (by decide +kernel) (by decide +kernel) rfl rfl rfl rfl (fun _ _ _ _ h => h) rfl (fun W => (rn_indexArr Tryd.underlying72 (by kernel_rfl : (Tryd.prog.info? 3).map (·.size) = some 1) (hF536.get rfl) rfl (by omega : (0 : Int) ≤ 2) (by omega : (2 : Int) < ((4 : Nat) : Int)))) ?_
              intro a537 hF538; clear hF536
              refine anyg_val (i := 17) (v := (.int .i64 (pc : Nat))) hF538 (by decide +kernel) (by decide +kernel) rfl rfl rfl rfl (fun _ _ _ _ h => h) rfl hS499 (fun W hW => (rn_load (isAgg_no Tryd.underlying3 rfl) (hF538.get rfl) (blk_intVals hW.2.1 (by omega) (show 2 < 4 from by decide)))) ?_
              intro a539 hF540; clear hF538
              refine anyg_pure (i := 18) (v := (.pointer (some ⟨g125, 0 + pc, none⟩))) hF540 (by decide +kernel) (by decide +kernel) rfl rfl rfl rfl (fun _ _ _ _ h => h) rfl (fun W => (rn_indexArr Tryd.underlying62 (by kernel_rfl : (Tryd.prog.info? 47).map (·.size) = some 1) (hF540.get rfl) (hF540.get rfl) (by omega : (0 : Int) ≤ (pc : Nat)) (by omega : ((pc : Nat) : Int) < ((16 : Nat) : Int)))) ?_
              intro a541 hF542; clear hF540
              refine anyg_val (i := 19) (v := (.int .u32 ((v2.getD pc 0).toNat : Nat))) hF542 (by decide +kernel) (by decide +kernel) rfl rfl rfl rfl (fun _ _ _ _ h => h) rfl hS499 (fun W hW => (rn_load (isAgg_no Tryd.underlying47 rfl) (hF542.get rfl) (blk_word hW.2.2.1 (by omega) (by have := (show List.length v2 = _ from hvl2); omega)))) ?_
              intro a543 hF544; clear hF542
              refine anyg_pure (i := 20) (v := (.pointer (some ⟨g408, 0 + 3, none⟩))) hF544 (by decide +kernel) (by decide +kernel) rfl rfl rfl rfl (fun _ _ _ _ h => h) rfl (fun W => (rn_indexArr Tryd.underlying72 (by kernel_rfl : (Tryd.prog.info? 3).map (·.size) = some 1) (hF544.get rfl) rfl (by omega : (0 : Int) ≤ 3) (by omega : (3 : Int) < ((4 : Nat) : Int)))) ?_
              intro a545 hF546; clear hF544
              refine anyg_val (i := 21) (v := (.int .i64 (pd : Nat))) hF546 (by decide +kernel) (by decide +kernel) rfl rfl rfl rfl (fun _ _ _ _ h => h) rfl hS499 (fun W hW => (rn_load (isAgg_no Tryd.underlying3 rfl) (hF546.get rfl) (blk_intVals hW.2.1 (by omega) (show 3 < 4 from by decide)))) ?_
              intro a547 hF548; clear hF546
              refine anyg_pure (i := 22) (v := (.pointer (some ⟨g125, 0 + pd, none⟩))) hF548 (by decide +kernel) (by decide +kernel) rfl rfl rfl rfl (fun _ _ _ _ h => h) rfl (fun W => (rn_indexArr Tryd.underlying62 (by kernel_rfl : (Tryd.prog.info? 47).map (·.size) = some 1) (hF548.get rfl) (hF548.get rfl) (by omega : (0 : Int) ≤ (pd : Nat)) (by omega : ((pd : Nat) : Int) < ((16 : Nat) : Int)))) ?_
              intro a549 hF550; clear hF548
              refine anyg_val (i := 23) (v := (.int .u32 ((v2.getD pd 0).toNat : Nat))) hF550 (by decide +kernel) (by decide +kernel) rfl rfl rfl rfl (fun _ _ _ _ h => h) rfl hS499 (fun W hW => (rn_load (isAgg_no Tryd.underlying47 rfl) (hF550.get rfl) (blk_word hW.2.2.1 (by omega) (by have := (show List.length v2 = _ from hvl2); omega)))) ?_
              intro a551 hF552; clear hF550
              refine anyg_pure (i := 24) (v := (.int .i64 (r : Nat))) hF552 (by decide +kernel) (by decide +kernel) rfl rfl rfl rfl (fun _ _ _ _ h => h) rfl (fun W => (rn_move (hF552.get rfl))) ?_
              intro a553 hF554; clear hF552
              refine anyg_pure (i := 25) (v := (.int .i64 (i2 : Nat))) hF554 (by decide +kernel) (by decide +kernel) rfl rfl rfl rfl (fun _ _ _ _ h => h) rfl (fun W => (rn_move (hF554.get rfl))) ?_
              intro a555 hF556; clear hF554
              refine anyg_pure (i := 26) (v := (.int .i64 (2 * i2 : Nat))) hF556 (by decide +kernel) (by decide +kernel) rfl rfl rfl rfl (fun _ _ _ _ h => h) rfl (fun W => (rn_mulN (a := 2) (b := i2) rfl (hF556.get rfl) (by omega))) ?_
              intro a557 hF558; clear hF556
              refine anyg_pure (i := 27) (v := (.pointer (some ⟨g299, 0 + r * 16, none⟩))) hF558 (by decide +kernel) (by decide +kernel) rfl rfl rfl rfl (fun _ _ _ _ h => h) rfl (fun W => (rn_indexArrE Tryd.underlying70 (by kernel_rfl : (Tryd.prog.info? 69).map (·.size) = some 16) (hF558.get rfl) (hF558.get rfl) (by omega : (0 : Int) ≤ (r : Nat)) (by omega : ((r : Nat) : Int) < ((10 : Nat) : Int)) (by omega))) ?_
              intro a559 hF560; clear hF558
              refine anyg_pure (i := 28) (v := (.pointer (some ⟨g299, 0 + r * 16 + (2 * i2), none⟩))) hF560 (by decide +kernel) (by decide +kernel) rfl rfl rfl rfl (fun _ _ _ _ h => h) rfl (fun W => (rn_indexArr Tryd.underlying69 (by kernel_rfl : (Tryd.prog.info? 3).map (·.size) = some 1) (hF560.get rfl) (hF560.get rfl) (by omega : (0 : Int) ≤ (2 * i2 : Nat)) (by omega : ((2 * i2 : Nat) : Int) < ((16 : Nat) : Int)))) ?_
              intro a561 hF562; clear hF560
              refine anyg_val (i := 29) (v := (.int .i64 ((permRow r).getD (2 * i2) 0 : Nat))) hF562 (by decide +kernel) (by decide +kernel) rfl rfl rfl rfl (fun _ _ _ _ h => h) rfl hS499 (fun W hW => (rn_load (isAgg_no Tryd.underlying3 rfl) (hF562.get rfl) (blk_perm hW.2.2.2.1 (r := r) (j := (2 * i2)) (by omega) (by omega) (by omega)))) ?_
              intro a563 hF564; clear hF562
              refine anyg_pure (i := 30) (v := (.pointer (some ⟨g21, 0 + ((permRow r).getD (2 * i2) 0), none⟩))) hF564 (by decide +kernel) (by decide +kernel) rfl rfl rfl rfl (fun _ _ _ _ h => h) rfl (fun W => (rn_indexArr Tryd.underlying62 (by kernel_rfl : (Tryd.prog.info? 47).map (·.size) = some 1) (hF564.get rfl) (hF564.get rfl) (by omega : (0 : Int) ≤ ((permRow r).getD (2 * i2) 0 : Nat)) (by omega : (((permRow r).getD (2 * i2) 0 : Nat) : Int) < ((16 : Nat) : Int)))) ?_
              intro a565 hF566; clear hF564
              refine anyg_val (i := 31) (v := (.int .u32 ((m.getD ((permRow r).getD (2 * i2) 0) 0).toNat : Nat))) hF566 (by decide +kernel) (by decide +kernel) rfl rfl rfl rfl (fun _ _ _ _ h => h) rfl hS499 (fun W hW => (rn_load (isAgg_no Tryd.underlying47 rfl) (hF566.get rfl) (blk_word hW.2.2.2.2 (by omega) (by have := (show List.length m = _ from hm); omega)))) ?_
              intro a567 hF568; clear hF566
              refine anyg_pure (i := 32) (v := (.int .i64 (r : Nat))) hF568 (by decide +kernel) (by decide +kernel) rfl rfl rfl rfl (fun _ _ _ _ h => h) rfl (fun W => (rn_move (hF568.get rfl))) ?_
              intro a569 hF570; clear hF568
              refine anyg_pure (i := 33) (v := (.int .i64 (i2 : Nat))) hF570 (by decide +kernel) (by decide +kernel) rfl rfl rfl rfl (fun _ _ _ _ h => h) rfl (fun W => (rn_move (hF570.get rfl))) ?_
              intro a571 hF572; clear hF570
              refine anyg_pure (i := 34) (v := (.int .i64 (2 * i2 : Nat))) hF572 (by decide +kernel) (by decide +kernel) rfl rfl rfl rfl (fun _ _ _ _ h => h) rfl (fun W => (rn_mulN (a := 2) (b := i2) rfl (hF572.get rfl) (by omega))) ?_
              intro a573 hF574; clear hF572
              refine anyg_pure (i := 35) (v := (.int .i64 ((2 * i2) + 1 : Nat))) hF574 (by decide +kernel) (by decide +kernel) rfl rfl rfl rfl (fun _ _ _ _ h => h) rfl (fun W => (rn_addN (a := 2 * i2) (b := 1) (hF574.get rfl) rfl (by omega))) ?_
              intro a575 hF576; clear hF574
              refine anyg_pure (i := 36) (v := (.pointer (some ⟨g299, 0 + r * 16, none⟩))) hF576 (by decide +kernel) (by decide +kernel) rfl rfl rfl rfl (fun _ _ _ _ h => h) rfl (fun W => (rn_indexArrE Tryd.underlying70 (by kernel_rfl : (Tryd.prog.info? 69).map (·.size) = some 16) (hF576.get rfl) (hF576.get rfl) (by omega : (0 : Int) ≤ (r : Nat)) (by omega : ((r : Nat) : Int) < ((10 : Nat) : Int)) (by omega))) ?_
              intro a577 hF578; clear hF576
              refine anyg_pure (i := 37) (v := (.pointer (some ⟨g299, 0 + r * 16 + ((2 * i2) + 1), none⟩))) hF578 (by decide +kernel) (by decide +kernel) rfl rfl rfl rfl (fun _ _ _ _ h => h) rfl (fun W => (rn_indexArr Tryd.underlying69 (by kernel_rfl : (Tryd.prog.info? 3).map (·.size) = some 1) (hF578.get rfl) (hF578.get rfl) (by omega : (0 : Int) ≤ ((2 * i2) + 1 : Nat)) (by omega : (((2 * i2) + 1 : Nat) : Int) < ((16 : Nat) : Int)))) ?_
              intro a579 hF580; clear hF578
              refine anyg_val (i := 38) (v := (.int .i64 ((permRow r).getD ((2 * i2) + 1) 0 : Nat))) hF580 (by decide +kernel) (by decide +kernel) rfl rfl rfl rfl (fun _ _ _ _ h => h) rfl hS499 (fun W hW => (rn_load (isAgg_no Tryd.underlying3 rfl) (hF580.get rfl) (blk_perm hW.2.2.2.1 (r := r) (j := ((2 * i2) + 1)) (by omega) (by omega) (by omega)))) ?_
              intro a581 hF582; clear hF580
              refine anyg_pure (i := 39) (v := (.pointer (some ⟨g21, 0 + ((permRow r).getD ((2 * i2) + 1) 0), none⟩))) hF582 (by decide +kernel) (by decide +kernel) rfl rfl rfl rfl (fun _ _ _ _ h => h) rfl (fun W => (rn_indexArr Tryd.underlying62 (by kernel_rfl : (Tryd.prog.info? 47).map (·.size) = some 1) (hF582.get rfl) (hF582.get rfl) (by omega : (0 : Int) ≤ ((permRow r).getD ((2 * i2) + 1) 0 : Nat)) (by omega : (((permRow r).getD ((2 * i2) + 1) 0 : Nat) : Int) < ((16 : Nat) : Int)))) ?_
              intro a583 hF584; clear hF582
              refine anyg_val (i := 40) (v := (.int .u32 ((m.getD ((permRow r).getD ((2 * i2) + 1) 0) 0).toNat : Nat))) hF584 (by decide +kernel) (by decide +kernel) rfl rfl rfl rfl (fun _ _ _ _ h => h) rfl hS499 (fun W hW => (rn_load (isAgg_no Tryd.underlying47 rfl) (hF584.get rfl) (blk_word hW.2.2.2.2 (by omega) (by have := (show List.length m = _ from hm); omega)))) ?_
              intro a585 hF586; clear hF584
              refine anyg_one (i := 41) (by decide +kernel) rfl ?_
              refine o_call hF586 rfl rfl rfl rfl (rn_call (args6 (hF586.get rfl) (hF586.get rfl) (hF586.get rfl) (hF586.get rfl) (hF586.get rfl) (hF586.get rfl)) rfl (by kernel_rfl)) (rmix_any (v2.getD pa 0) (v2.getD pb 0) (v2.getD pc 0) (v2.getD pd 0) (m.getD ((permRow r).getD (2 * i2) 0) 0) (m.getD ((permRow r).getD ((2 * i2) + 1) 0) 0) _) ?_
              rintro _ w587 ⟨rfl, hx588⟩
              refine ⟨_, rfl, ?_⟩; intro a589 hF590; clear hF586; have z591 := hx588.size
              have b592 : Blk w587 g408 72 (intVals [((pa : Nat) : Int), ((pb : Nat) : Int), ((pc : Nat) : Int), ((pd : Nat) : Int)]) := (b500.ext hx588)
              have b593 : Blk w587 g125 62 (u32Vals v2) := (b501.ext hx588)
              have b594 : Blk w587 g299 70 (intVals permI) := (b502.ext hx588)
              have b595 : Blk w587 g21 62 (u32Vals m) := (b503.ext hx588)
              refine ⟨⟨fun _ _ => ⟨((Ext.refl w493).trans hx588), b592, b593, b594, b595⟩, fun _ => ⟨b592, b594, b595⟩⟩, ?_⟩
              refine anyg_pure (i := 42) (v := (.tuple #[(.int .u32 (((mix4 (v2.getD pa 0) (v2.getD pb 0) (v2.getD pc 0) (v2.getD pd 0) (m.getD ((permRow r).getD (2 * i2) 0) 0) (m.getD ((permRow r).getD ((2 * i2) + 1) 0) 0)).a).toNat : Nat)), (.int .u32 (((mix4 (v2.getD pa 0) (v2.getD pb 0) (v2.getD pc 0) (v2.getD pd 0) (m.getD ((permRow r).getD (2 * i2) 0) 0) (m.getD ((permRow r).getD ((2 * i2) + 1) 0) 0)).b).toNat : Nat)), (.int .u32 (((mix4 (v2.getD pa 0) (v2.getD pb 0) (v2.getD pc 0) (v2.getD pd 0) (m.getD ((permRow r).getD (2 * i2) 0) 0) (m.getD ((permRow r).getD ((2 * i2) + 1) 0) 0)).c).toNat : Nat)), (.int .u32 (((mix4 (v2.getD pa 0) (v2.getD pb 0) (v2.getD pc 0) (v2.getD pd 0) (m.getD ((permRow r).getD (2 * i2) 0) 0) (m.getD ((permRow r).getD ((2 * i2) + 1) 0) 0)).d).toNat : Nat))])) hF590 (by decide +kernel) (by decide +kernel) rfl rfl rfl rfl (fun _ _ _ _ h => h) rfl (fun W => (rn_move (hF590.get rfl))) ?_
              intro a596 hF597; clear hF590
              refine anyg_pure (i := 43) (v := (.int .u32 (((mix4 (v2.getD pa 0) (v2.getD pb 0) (v2.getD pc 0) (v2.getD pd 0) (m.getD ((permRow r).getD (2 * i2) 0) 0) (m.getD ((permRow r).getD ((2 * i2) + 1) 0) 0)).a).toNat : Nat))) hF597 (by decide +kernel) (by decide +kernel) rfl rfl rfl rfl (fun _ _ _ _ h => h) rfl (fun W => (rn_extract (hF597.get rfl) rfl)) ?_
              intro a598 hF599; clear hF597
              refine anyg_pure (i := 44) (v := (.int .u32 (((mix4 (v2.getD pa 0) (v2.getD pb 0) (v2.getD pc 0) (v2.getD pd 0) (m.getD ((permRow r).getD (2 * i2) 0) 0) (m.getD ((permRow r).getD ((2 * i2) + 1) 0) 0)).b).toNat : Nat))) hF599 (by decide +kernel) (by decide +kernel) rfl rfl rfl rfl (fun _ _ _ _ h => h) rfl (fun W => (rn_extract (hF599.get rfl) rfl)) ?_
              intro a600 hF601; clear hF599
              refine anyg_pure (i := 45) (v := (.int .u32 (((mix4 (v2.getD pa 0) (v2.getD pb 0) (v2.getD pc 0) (v2.getD pd 0) (m.getD ((permRow r).getD (2 * i2) 0) 0) (m.getD ((permRow r).getD ((2 * i2) + 1) 0) 0)).c).toNat : Nat))) hF601 (by decide +kernel) (by decide +kernel) rfl rfl rfl rfl (fun _ _ _ _ h => h) rfl (fun W => (rn_extract (hF601.get rfl) rfl)) ?_
              intro a602 hF603; clear hF601
              refine anyg_pure (i := 46) (v := (.int .u32 (((mix4 (v2.getD pa 0) (v2.getD pb 0) (v2.getD pc 0) (v2.getD pd 0) (m.getD ((permRow r).getD (2 * i2) 0) 0) (m.getD ((permRow r).getD ((2 * i2) + 1) 0) 0)).d).toNat : Nat))) hF603 (by decide +kernel) (by decide +kernel) rfl rfl rfl rfl (fun _ _ _ _ h => h) rfl (fun W => (rn_extract (hF603.get rfl) rfl)) ?_
              intro a604 hF605; clear hF603
              refine anyg_pure (i := 47) (v := (.pointer (some ⟨g125, 0 + pa, none⟩))) hF605 (by decide +kernel) (by decide +kernel) rfl rfl rfl rfl (fun _ _ _ _ h => h) rfl (fun W => (rn_indexArr Tryd.underlying62 (by kernel_rfl : (Tryd.prog.info? 47).map (·.size) = some 1) (hF605.get rfl) (hF605.get rfl) (by omega : (0 : Int) ≤ (pa : Nat)) (by omega : ((pa : Nat) : Int) < ((16 : Nat) : Int)))) ?_
              intro a606 hF607; clear hF605
              refine anyg_one (i := 48) (by decide +kernel) rfl ?_
              refine o_store1 (new := (u32Vals (v2.set pa ((mix4 (v2.getD pa 0) (v2.getD pb 0) (v2.getD pc 0) (v2.getD pd 0) (m.getD ((permRow r).getD (2 * i2) 0) 0) (m.getD ((permRow r).getD ((2 * i2) + 1) 0) 0)).a)))) hF607 rfl rfl rfl rfl (hF607.get rfl) (hF607.get rfl) b593 (by kernel_rfl : (Tryd.prog.info? 47).map (·.size) = some 1) (by rw [u32Vals_len hvl2]; omega) rfl (u32Vals_set (by omega)) ?_
              intro w608 b609 hg610; have z611 := hg610.size
              have b612 : Blk w608 g408 72 (intVals [((pa : Nat) : Int), ((pb : Nat) : Int), ((pc : Nat) : Int), ((pd : Nat) : Int)]) := (b592.grownN hg610 (by omega))
              have b613 : Blk w608 g299 70 (intVals permI) := (b594.grownN hg610 (by omega))
              have b614 : Blk w608 g21 62 (u32Vals m) := (b595.grownN hg610 (by omega))
              refine ⟨⟨fun h => absurd h (by decide), fun _ => ⟨b612, b613, b614⟩⟩, ?_⟩
              refine anyg_pure (i := 49) (v := (.pointer (some ⟨g125, 0 + pb, none⟩))) hF607 (by decide +kernel) (by decide +kernel) rfl rfl rfl rfl (fun _ _ _ _ h => h) rfl (fun W => (rn_indexArr Tryd.underlying62 (by kernel_rfl : (Tryd.prog.info? 47).map (·.size) = some 1) (hF607.get rfl) (hF607.get rfl) (by omega : (0 : Int) ≤ (pb : Nat)) (by omega : ((pb : Nat) : Int) < ((16 : Nat) : Int)))) ?_
              intro a615 hF616; clear hF607
              refine anyg_one (i := 50) (by decide +kernel) rfl ?_
              refine o_store1 (new := (u32Vals ((v2.set pa ((mix4 (v2.getD pa 0) (v2.getD pb 0) (v2.getD pc 0) (v2.getD pd 0) (m.getD ((permRow r).getD (2 * i2) 0) 0) (m.getD ((permRow r).getD ((2 * i2) + 1) 0) 0)).a)).set pb ((mix4 (v2.getD pa 0) (v2.getD pb 0) (v2.getD pc 0) (v2.getD pd 0) (m.getD ((permRow r).getD (2 * i2) 0) 0) (m.getD ((permRow r).getD ((2 * i2) + 1) 0) 0)).b)))) hF616 rfl rfl rfl rfl (hF616.get rfl) (hF616.get rfl) b609 (by kernel_rfl : (Tryd.prog.info? 47).map (·.size) = some 1) (by rw [u32Vals_len (show List.length (v2.set pa ((mix4 (v2.getD pa 0) (v2.getD pb 0) (v2.getD pc 0) (v2.getD pd 0) (m.getD ((permRow r).getD (2 * i2) 0) 0) (m.getD ((permRow r).getD ((2 * i2) + 1) 0) 0)).a)) = _ from List.length_set.trans hvl2)]; omega) rfl (u32Vals_set (by omega)) ?_
              intro w617 b618 hg619; have z620 := hg619.size
              have b621 : Blk w617 g408 72 (intVals [((pa : Nat) : Int), ((pb : Nat) : Int), ((pc : Nat) : Int), ((pd : Nat) : Int)]) := (b612.grownN hg619 (by omega))
              have b622 : Blk w617 g299 70 (intVals permI) := (b613.grownN hg619 (by omega))
              have b623 : Blk w617 g21 62 (u32Vals m) := (b614.grownN hg619 (by omega))
              refine ⟨⟨fun h => absurd h (by decide), fun _ => ⟨b621, b622, b623⟩⟩, ?_⟩
              refine anyg_pure (i := 51) (v := (.pointer (some ⟨g125, 0 + pc, none⟩))) hF616 (by decide +kernel) (by decide +kernel) rfl rfl rfl rfl (fun _ _ _ _ h => h) rfl (fun W => (rn_indexArr Tryd.underlying62 (by kernel_rfl : (Tryd.prog.info? 47).map (·.size) = some 1) (hF616.get rfl) (hF616.get rfl) (by omega : (0 : Int) ≤ (pc : Nat)) (by omega : ((pc : Nat) : Int) < ((16 : Nat) : Int)))) ?_
              intro a624 hF625; clear hF616
              refine anyg_one (i := 52) (by decide +kernel) rfl ?_
              refine o_store1 (new := (u32Vals (((v2.set pa ((mix4 (v2.getD pa 0) (v2.getD pb 0) (v2.getD pc 0) (v2.getD pd 0) (m.getD ((permRow r).getD (2 * i2) 0) 0) (m.getD ((permRow r).getD ((2 * i2) + 1) 0) 0)).a)).set pb ((mix4 (v2.getD pa 0) (v2.getD pb 0) (v2.getD pc 0) (v2.getD pd 0) (m.getD ((permRow r).getD (2 * i2) 0) 0) (m.getD ((permRow r).getD ((2 * i2) + 1) 0) 0)).b)).set pc ((mix4 (v2.getD pa 0) (v2.getD pb 0) (v2.getD pc 0) (v2.getD pd 0) (m.getD ((permRow r).getD (2 * i2) 0) 0) (m.getD ((permRow r).getD ((2 * i2) + 1) 0) 0)).c)))) hF625 rfl rfl rfl rfl (hF625.get rfl) (hF625.get rfl) b618 (by kernel_rfl : (Tryd.prog.info? 47).map (·.size) = some 1) (by rw [u32Vals_len (show List.length ((v2.set pa ((mix4 (v2.getD pa 0) (v2.getD pb 0) (v2.getD pc 0) (v2.getD pd 0) (m.getD ((permRow r).getD (2 * i2) 0) 0) (m.getD ((permRow r).getD ((2 * i2) + 1) 0) 0)).a)).set pb ((mix4 (v2.getD pa 0) (v2.getD pb 0) (v2.getD pc 0) (v2.getD pd 0) (m.getD ((permRow r).getD (2 * i2) 0) 0) (m.getD ((permRow r).getD ((2 * i2) + 1) 0) 0)).b)) = _ from List.length_set.trans (show List.length (v2.set pa ((mix4 (v2.getD pa 0) (v2.getD pb 0) (v2.getD pc 0) (v2.getD pd 0) (m.getD ((permRow r).getD (2 * i2) 0) 0) (m.getD ((permRow r).getD ((2 * i2) + 1) 0) 0)).a)) = _ from List.length_set.trans hvl2))]; omega) rfl (u32Vals_set (by omega)) ?_
              intro w626 b627 hg628; have z629 := hg628.size
              have b630 : Blk w626 g408 72 (intVals [((pa : Nat) : Int), ((pb : Nat) : Int), ((pc : Nat) : Int), ((pd : Nat) : Int)]) := (b621.grownN hg628 (by omega))
              have b631 : Blk w626 g299 70 (intVals permI) := (b622.grownN hg628 (by omega))
              have b632 : Blk w626 g21 62 (u32Vals m) := (b623.grownN hg628 (by omega))
              refine ⟨⟨fun h => absurd h (by decide), fun _ => ⟨b630, b631, b632⟩⟩, ?_⟩
              refine anyg_pure (i := 53) (v := (.pointer (some ⟨g125, 0 + pd, none⟩))) hF625 (by decide +kernel) (by decide +kernel) rfl rfl rfl rfl (fun _ _ _ _ h => h) rfl (fun W => (rn_indexArr Tryd.underlying62 (by kernel_rfl : (Tryd.prog.info? 47).map (·.size) = some 1) (hF625.get rfl) (hF625.get rfl) (by omega : (0 : Int) ≤ (pd : Nat)) (by omega : ((pd : Nat) : Int) < ((16 : Nat) : Int)))) ?_
              intro a633 hF634; clear hF625
              refine anyg_one (i := 54) (by decide +kernel) rfl ?_
              refine o_store1 (new := (u32Vals ((((v2.set pa ((mix4 (v2.getD pa 0) (v2.getD pb 0) (v2.getD pc 0) (v2.getD pd 0) (m.getD ((permRow r).getD (2 * i2) 0) 0) (m.getD ((permRow r).getD ((2 * i2) + 1) 0) 0)).a)).set pb ((mix4 (v2.getD pa 0) (v2.getD pb 0) (v2.getD pc 0) (v2.getD pd 0) (m.getD ((permRow r).getD (2 * i2) 0) 0) (m.getD ((permRow r).getD ((2 * i2) + 1) 0) 0)).b)).set pc ((mix4 (v2.getD pa 0) (v2.getD pb 0) (v2.getD pc 0) (v2.getD pd 0) (m.getD ((permRow r).getD (2 * i2) 0) 0) (m.getD ((permRow r).getD ((2 * i2) + 1) 0) 0)).c)).set pd ((mix4 (v2.getD pa 0) (v2.getD pb 0) (v2.getD pc 0) (v2.getD pd 0) (m.getD ((permRow r).getD (2 * i2) 0) 0) (m.getD ((permRow r).getD ((2 * i2) + 1) 0) 0)).d)))) hF634 rfl rfl rfl rfl (hF634.get rfl) (hF634.get rfl) b627 (by kernel_rfl : (Tryd.prog.info? 47).map (·.size) = some 1) (by rw [u32Vals_len (show List.length (((v2.set pa ((mix4 (v2.getD pa 0) (v2.getD pb 0) (v2.getD pc 0) (v2.getD pd 0) (m.getD ((permRow r).getD (2 * i2) 0) 0) (m.getD ((permRow r).getD ((2 * i2) + 1) 0) 0)).a)).set pb ((mix4 (v2.getD pa 0) (v2.getD pb 0) (v2.getD pc 0) (v2.getD pd 0) (m.getD ((permRow r).getD (2 * i2) 0) 0) (m.getD ((permRow r).getD ((2 * i2) + 1) 0) 0)).b)).set pc ((mix4 (v2.getD pa 0) (v2.getD pb 0) (v2.getD pc 0) (v2.getD pd 0) (m.getD ((permRow r).getD (2 * i2) 0) 0) (m.getD ((permRow r).getD ((2 * i2) + 1) 0) 0)).c)) = _ from List.length_set.trans (show List.length ((v2.set pa ((mix4 (v2.getD pa 0) (v2.getD pb 0) (v2.getD pc 0) (v2.getD pd 0) (m.getD ((permRow r).getD (2 * i2) 0) 0) (m.getD ((permRow r).getD ((2 * i2) + 1) 0) 0)).a)).set pb ((mix4 (v2.getD pa 0) (v2.getD pb 0) (v2.getD pc 0) (v2.getD pd 0) (m.getD ((permRow r).getD (2 * i2) 0) 0) (m.getD ((permRow r).getD ((2 * i2) + 1) 0) 0)).b)) = _ from List.length_set.trans (show List.length (v2.set pa ((mix4 (v2.getD pa 0) (v2.getD pb 0) (v2.getD pc 0) (v2.getD pd 0) (m.getD ((permRow r).getD (2 * i2) 0) 0) (m.getD ((permRow r).getD ((2 * i2) + 1) 0) 0)).a)) = _ from List.length_set.trans hvl2)))]; omega) rfl (u32Vals_set (by omega)) ?_
              intro w635 b636 hg637; have z638 := hg637.size
              have b639 : Blk w635 g408 72 (intVals [((pa : Nat) : Int), ((pb : Nat) : Int), ((pc : Nat) : Int), ((pd : Nat) : Int)]) := (b630.grownN hg637 (by omega))
              have b640 : Blk w635 g299 70 (intVals permI) := (b631.grownN hg637 (by omega))
              have b641 : Blk w635 g21 62 (u32Vals m) := (b632.grownN hg637 (by omega))
              refine ⟨⟨fun h => absurd h (by decide), fun _ => ⟨b639, b640, b641⟩⟩, ?_⟩
              refine anyg_nil (by decide +kernel) ?_
              refine hK383 _ _ ?_
              clear hK383
              have hF642 := (((((((((((((((((((((hF634.nil.cons (hF634.get (t := 18) (v := (.pointer (some ⟨g408, 0, none⟩))) rfl)).cons (hF634.get (t := 17) (v := (.int .i64 (i2 % 4 : Nat))) rfl)).cons (hF634.get (t := 83) (v := (.bool (decide (((i2 : Nat) : Int) < (8 : Int))))) rfl)).cons (hF634.get (t := 16) (v := (.int .i64 (i2 : Nat))) rfl)).cons (hF634.get (t := 79) (v := (.bool (decide (((r : Nat) : Int) < (10 : Int))))) rfl)).cons (hF634.get (t := 15) (v := (.int .i64 (r : Nat))) rfl)).cons (hF634.get (t := 14) (v := (.pointer (some ⟨g299, 0, none⟩))) rfl)).cons (hF634.get (t := 72) (v := (.bool last)) rfl)).cons (hF634.get (t := 45) (v := (.bool (decide (((k1 : Nat) : Int) < (8 : Int))))) rfl)).cons (hF634.get (t := 13) (v := (.int .i64 (k1 : Nat))) rfl)).cons (hF634.get (t := 12) (v := (.pointer (some ⟨g143, 0, none⟩))) rfl)).cons (hF634.get (t := 11) (v := (.pointer (some ⟨g125, 0, none⟩))) rfl)).cons (hF634.get (t := 22) (v := (.bool (decide (((k : Nat) : Int) < (64 : Int))))) rfl)).cons (hF634.get (t := 10) (v := (.int .i64 (k : Nat))) rfl)).cons (hF634.get (t := 9) (v := (.pointer (some ⟨g21, 0, none⟩))) rfl)).cons (hF634.get (t := 8) (v := (.pointer (some ⟨g10, 0, none⟩))) rfl)).cons (hF634.get (t := 4) (v := (.pointer (some ⟨g2, 0, none⟩))) rfl)).cons (hF634.get (t := 3) (v := (.bool last)) rfl)).cons (hF634.get (t := 2) (v := (.int .u64 (n.toNat : Nat))) rfl)).cons (hF634.get (t := 1) (v := (.slice A 64 c)) rfl)).cons (hF634.get (t := 0) (v := (.agg (u32Vals h).toArray)) rfl))
              clear hF634
              refine wp_region_lit ?_
              refine wpl_op (i := 0) rfl (o_val (v := (.int .i64 (i2 : Nat))) hF642 rfl rfl rfl rfl (rn_move (hF642.get rfl)) ?_)
              intro a643 hF644; clear hF642
              refine wpl_op (i := 1) rfl (o_val (v := (.int .i64 (i2 + 1 : Nat))) hF644 rfl rfl rfl rfl (rn_addN (a := i2) (b := 1) (hF644.get rfl) rfl (by omega)) ?_)
              intro a645 hF646; clear hF644
              refine wpl_op (i := 2) rfl (o_val (v := (.int .i64 (i2 + 1 : Nat))) hF646 rfl rfl rfl rfl (rn_assign (hF646.get rfl)) ?_)
              intro a647 hF648; clear hF646
              refine wpList_nil ?_
              obtain ⟨v649, e650⟩ : ∃ z, z = (((v2.set pa ((mix4 (v2.getD pa 0) (v2.getD pb 0) (v2.getD pc 0) (v2.getD pd 0) (m.getD ((permRow r).getD (2 * i2) 0) 0) (m.getD ((permRow r).getD ((2 * i2) + 1) 0) 0)).a)).set pb ((mix4 (v2.getD pa 0) (v2.getD pb 0) (v2.getD pc 0) (v2.getD pd 0) (m.getD ((permRow r).getD (2 * i2) 0) 0) (m.getD ((permRow r).getD ((2 * i2) + 1) 0) 0)).b)).set pc ((mix4 (v2.getD pa 0) (v2.getD pb 0) (v2.getD pc 0) (v2.getD pd 0) (m.getD ((permRow r).getD (2 * i2) 0) 0) (m.getD ((permRow r).getD ((2 * i2) + 1) 0) 0)).c)).set pd ((mix4 (v2.getD pa 0) (v2.getD pb 0) (v2.getD pc 0) (v2.getD pd 0) (m.getD ((permRow r).getD (2 * i2) 0) 0) (m.getD ((permRow r).getD ((2 * i2) + 1) 0) 0)).d) := ⟨_, rfl⟩
              have hl651 : v649.length = 16 := (congrArg List.length e650).trans (show List.length ((((v2.set pa ((mix4 (v2.getD pa 0) (v2.getD pb 0) (v2.getD pc 0) (v2.getD pd 0) (m.getD ((permRow r).getD (2 * i2) 0) 0) (m.getD ((permRow r).getD ((2 * i2) + 1) 0) 0)).a)).set pb ((mix4 (v2.getD pa 0) (v2.getD pb 0) (v2.getD pc 0) (v2.getD pd 0) (m.getD ((permRow r).getD (2 * i2) 0) 0) (m.getD ((permRow r).getD ((2 * i2) + 1) 0) 0)).b)).set pc ((mix4 (v2.getD pa 0) (v2.getD pb 0) (v2.getD pc 0) (v2.getD pd 0) (m.getD ((permRow r).getD (2 * i2) 0) 0) (m.getD ((permRow r).getD ((2 * i2) + 1) 0) 0)).c)).set pd ((mix4 (v2.getD pa 0) (v2.getD pb 0) (v2.getD pc 0) (v2.getD pd 0) (m.getD ((permRow r).getD (2 * i2) 0) 0) (m.getD ((permRow r).getD ((2 * i2) + 1) 0) 0)).d)) = _ from List.length_set.trans (show List.length (((v2.set pa ((mix4 (v2.getD pa 0) (v2.getD pb 0) (v2.getD pc 0) (v2.getD pd 0) (m.getD ((permRow r).getD (2 * i2) 0) 0) (m.getD ((permRow r).getD ((2 * i2) + 1) 0) 0)).a)).set pb ((mix4 (v2.getD pa 0) (v2.getD pb 0) (v2.getD pc 0) (v2.getD pd 0) (m.getD ((permRow r).getD (2 * i2) 0) 0) (m.getD ((permRow r).getD ((2 * i2) + 1) 0) 0)).b)).set pc ((mix4 (v2.getD pa 0) (v2.getD pb 0) (v2.getD pc 0) (v2.getD pd 0) (m.getD ((permRow r).getD (2 * i2) 0) 0) (m.getD ((permRow r).getD ((2 * i2) + 1) 0) 0)).c)) = _ from List.length_set.trans (show List.length ((v2.set pa ((mix4 (v2.getD pa 0) (v2.getD pb 0) (v2.getD pc 0) (v2.getD pd 0) (m.getD ((permRow r).getD (2 * i2) 0) 0) (m.getD ((permRow r).getD ((2 * i2) + 1) 0) 0)).a)).set pb ((mix4 (v2.getD pa 0) (v2.getD pb 0) (v2.getD pc 0) (v2.getD pd 0) (m.getD ((permRow r).getD (2 * i2) 0) 0) (m.getD ((permRow r).getD ((2 * i2) + 1) 0) 0)).b)) = _ from List.length_set.trans (show List.length (v2.set pa ((mix4 (v2.getD pa 0) (v2.getD pb 0) (v2.getD pc 0) (v2.getD pd 0) (m.getD ((permRow r).getD (2 * i2) 0) 0) (m.getD ((permRow r).getD ((2 * i2) + 1) 0) 0)).a)) = _ from List.length_set.trans hvl2))))
              rw [← e650] at b636
              have b652 : Blk w635 g2 48 (u32Vals h) := ((((((b477.ext hx494).ext hx588).grownN hg610 (by omega)).grownN hg619 (by omega)).grownN hg628 (by omega)).grownN hg637 (by omega))
              have b653 : Blk w635 g10 48 (u32Vals (List.replicate 8 0)) := ((((((b478.ext hx494).ext hx588).grownN hg610 (by omega)).grownN hg619 (by omega)).grownN hg628 (by omega)).grownN hg637 (by omega))
              have b654 : Blk w635 g143 48 (u32Vals iv) := ((((((b481.ext hx494).ext hx588).grownN hg610 (by omega)).grownN hg619 (by omega)).grownN hg628 (by omega)).grownN hg637 (by omega))
              refine ⟨⟨(i2 + 1), v649, ((((((((((((((((((hF648.nil.cons (q_get hF648 (t := 16) rfl (by first | rfl | (congr 1; omega) | (congr 1; done)))).cons (q_get hF648 (t := 79) rfl rfl)).cons (q_get hF648 (t := 15) rfl rfl)).cons (q_get hF648 (t := 14) rfl rfl)).cons (q_get hF648 (t := 72) rfl rfl)).cons (q_get hF648 (t := 45) rfl rfl)).cons (q_get hF648 (t := 13) rfl rfl)).cons (q_get hF648 (t := 12) rfl rfl)).cons (q_get hF648 (t := 11) rfl rfl)).cons (q_get hF648 (t := 22) rfl rfl)).cons (q_get hF648 (t := 10) rfl rfl)).cons (q_get hF648 (t := 9) rfl rfl)).cons (q_get hF648 (t := 8) rfl rfl)).cons (q_get hF648 (t := 4) rfl rfl)).cons (q_get hF648 (t := 3) rfl rfl)).cons (q_get hF648 (t := 2) rfl rfl)).cons (q_get hF648 (t := 1) rfl rfl)).cons (q_get hF648 (t := 0) rfl rfl)), (by omega), (mixTo_r hp360 pm475 rfl e650), ((((((((Ext.refl w).trans hx474).trans hx494).trans hx588).grownN hg610 (by omega)).grownN hg619 (by omega)).grownN hg628 (by omega)).grownN hg637 (by omega)), b652, b653, b641, b636, b654, b640, (by omega)⟩, ?_⟩
              rw [hF648.get (t := 16) rfl, hL368.get (t := 16) rfl]; simp [intOf] <;> omega
          · skip
            refine wp_cond_false (c_false hF381 rfl (decide_eq_false hc382)) ?_
            refine wp_exit ?_
            refine exit_then ?_
            refine exit_then ?_
            refine exit_here ?_
            refine hK351 _ _ ?_
            clear hK351
            refine wp_region_lit ?_
            refine wpl_op (i := 0) rfl (o_val (v := (.int .i64 (r : Nat))) hF381 rfl rfl rfl rfl (rn_move (hF381.get rfl)) ?_)
            intro a655 hF656; clear hF381
            refine wpl_op (i := 1) rfl (o_val (v := (.int .i64 (r + 1 : Nat))) hF656 rfl rfl rfl rfl (rn_addN (a := r) (b := 1) (hF656.get rfl) rfl (by omega)) ?_)
            intro a657 hF658; clear hF656
            refine wpl_op (i := 2) rfl (o_val (v := (.int .i64 (r + 1 : Nat))) hF658 rfl rfl rfl rfl (rn_assign (hF658.get rfl)) ?_)
            intro a659 hF660; clear hF658
            refine wpList_nil ?_
            refine ⟨⟨(r + 1), v2, ((((((((((((((((hF660.nil.cons (q_get hF660 (t := 15) rfl (by first | rfl | (congr 1; omega) | (congr 1; done)))).cons (q_get hF660 (t := 14) rfl rfl)).cons (q_get hF660 (t := 72) rfl rfl)).cons (q_get hF660 (t := 45) rfl rfl)).cons (q_get hF660 (t := 13) rfl rfl)).cons (q_get hF660 (t := 12) rfl rfl)).cons (q_get hF660 (t := 11) rfl rfl)).cons (q_get hF660 (t := 22) rfl rfl)).cons (q_get hF660 (t := 10) rfl rfl)).cons (q_get hF660 (t := 9) rfl rfl)).cons (q_get hF660 (t := 8) rfl rfl)).cons (q_get hF660 (t := 4) rfl rfl)).cons (q_get hF660 (t := 3) rfl rfl)).cons (q_get hF660 (t := 2) rfl rfl)).cons (q_get hF660 (t := 1) rfl rfl)).cons (q_get hF660 (t := 0) rfl rfl)), (by omega), (roundTo_step (by omega) hp328 (by rw [hp360, show i2 = 8 by omega])), ((Ext.refl w).trans hx358), b361, b362, b363, b364, b365, b366, (by omega)⟩, ?_⟩
            rw [hF660.get (t := 15) rfl, hL336.get (t := 15) rfl]; simp [intOf] <;> omega
        · skip
          refine wp_cond_false (c_false hF349 rfl (decide_eq_false hc350)) ?_
          refine wp_exit ?_
          refine exit_then ?_
          refine exit_then ?_
          refine exit_here ?_
          refine hK311 _ _ ?_
          clear hK311
          refine wp_seq_k (fun K661 hK661 => ?_)
          refine wp_seq_k (fun K662 hK662 => ?_)
          refine wp_region_lit ?_
          refine wpl_op (i := 0) rfl (o_val (v := (.int .i64 0)) hF349 rfl rfl rfl rfl (rn_assign rfl) ?_)
          intro a663 hF664; clear hF349
          refine wpList_nil ?_
          refine hK662 _ _ ?_
          clear hK662
          refine wp_block ?_
          have hv10 : v = roundTo (words b) (begin_ h n last) 10 := by rw [hp328, hv1, hmw, show r = 10 from by omega]
          refine wp_loop (fun a' W => ∃ (k5 : Nat) (hh2 : List UInt32), Sl 182 [(0, (.agg (u32Vals h).toArray)), (1, (.slice A 64 c)), (2, (.int .u64 (n.toNat : Nat))), (3, (.bool last)), (4, (.pointer (some ⟨g2, 0, none⟩))), (8, (.pointer (some ⟨g10, 0, none⟩))), (9, (.pointer (some ⟨g21, 0, none⟩))), (10, (.int .i64 (k : Nat))), (22, (.bool (decide (((k : Nat) : Int) < (64 : Int))))), (11, (.pointer (some ⟨g125, 0, none⟩))), (12, (.pointer (some ⟨g143, 0, none⟩))), (13, (.int .i64 (k1 : Nat))), (45, (.bool (decide (((k1 : Nat) : Int) < (8 : Int))))), (72, (.bool last)), (14, (.pointer (some ⟨g299, 0, none⟩))), (15, (.int .i64 (r : Nat))), (79, (.bool (decide (((r : Nat) : Int) < (10 : Int))))), (19, (.int .i64 (k5 : Nat)))] a' ∧ k5 ≤ 8 ∧ hh2 = closeTo v h k5 ∧ Ext w W ∧ Blk W g2 48 (u32Vals hh2) ∧ Blk W g10 48 (u32Vals (List.replicate 8 0)) ∧ Blk W g21 62 (u32Vals m) ∧ Blk W g125 62 (u32Vals v) ∧ Blk W g143 48 (u32Vals iv) ∧ Blk W g299 70 (intVals permI) ∧ w324.heap.size ≤ W.heap.size) (fun a' _ => 8 - (intOf (a'.eval (.tmp 19))).toNat) ⟨0, h, ((((((((((((((((((hF664.nil.cons (q_get hF664 (t := 19) rfl (by first | rfl | (congr 1; omega) | (congr 1; done)))).cons (q_get hF664 (t := 79) rfl rfl)).cons (q_get hF664 (t := 15) rfl rfl)).cons (q_get hF664 (t := 14) rfl rfl)).cons (q_get hF664 (t := 72) rfl rfl)).cons (q_get hF664 (t := 45) rfl rfl)).cons (q_get hF664 (t := 13) rfl rfl)).cons (q_get hF664 (t := 12) rfl rfl)).cons (q_get hF664 (t := 11) rfl rfl)).cons (q_get hF664 (t := 22) rfl rfl)).cons (q_get hF664 (t := 10) rfl rfl)).cons (q_get hF664 (t := 9) rfl rfl)).cons (q_get hF664 (t := 8) rfl rfl)).cons (q_get hF664 (t := 4) rfl rfl)).cons (q_get hF664 (t := 3) rfl rfl)).cons (q_get hF664 (t := 2) rfl rfl)).cons (q_get hF664 (t := 1) rfl rfl)).cons (q_get hF664 (t := 0) rfl rfl)), (by omega), rfl, ((Ext.refl w).trans hx326), b329, b330, b331, b332, b333, b334, (Nat.le_refl _)⟩ ?_
          clear hF664
          rintro a665 w666 ⟨k5, hh2, hF667, hp669, hp670, hx668, b671, b672, b673, b674, b675, b676, hf677⟩
          have hL678 := hF667
          have z679 := hx668.size
          have z680 := b671.lt
          have z681 := b672.lt
          have z682 := b673.lt
          have z683 := b674.lt
          have z684 := b675.lt
          have z685 := b676.lt
          have hhl : hh2.length = 8 := by rw [hp670]; exact closeTo_len hh
          refine wp_seq_k (fun K686 hK686 => ?_)
          refine wp_seq_k (fun K687 hK687 => ?_)
          refine wp_region_lit ?_
          refine wpl_op (i := 0) rfl (o_val (v := (.int .i64 (k5 : Nat))) hF667 rfl rfl rfl rfl (rn_move (hF667.get rfl)) ?_)
          intro a688 hF689; clear hF667
          refine wpl_op (i := 1) rfl (o_val (v := (.bool (decide (((k5 : Nat) : Int) < (8 : Int))))) hF689 rfl rfl rfl rfl (rn_lss (hF689.get rfl) rfl) ?_)
          intro a690 hF691; clear hF689
          refine wpList_nil ?_
          refine hK687 _ _ ?_
          clear hK687
          by_cases hc692 : ((k5 : Nat) : Int) < (8 : Int)
          · skip
            refine wp_cond_true (c_true hF691 rfl (decide_eq_true hc692)) ?_
            refine wp_skip ?_
            refine hK686 _ _ ?_
            clear hK686
            refine wp_seq_k (fun K693 hK693 => ?_)
            refine wp_block ?_
            have hx695 : ∃ W, w666.drew = W ∧ Ext w666 W := ⟨_, rfl, (Ext.refl _).drew⟩
            obtain ⟨w694, e696, hx695⟩ := hx695
            have z697 := hx695.size
            refine any_start (fun W => Ext w694 W ∧ Blk W g2 48 (u32Vals hh2) ∧ Blk W g125 62 (u32Vals v)) (fun i => i == 14) 15 #[false, false, false, false, false, false, false, false, false, false, false, false, false, false, false] rfl rfl rfl ?_
            rw [e696]; clear e696
            refine any_pure (i := 0) (v := (.int .i64 (k5 : Nat))) hF691 (by decide +kernel) (by decide +kernel) rfl rfl rfl rfl (fun _ _ _ _ h => h) rfl (fun W => (rn_move (hF691.get rfl))) ?_
            intro a698 hF699; clear hF691
            refine any_pure (i := 1) (v := (.int .i64 (k5 : Nat))) hF699 (by decide +kernel) (by decide +kernel) rfl rfl rfl rfl (fun _ _ _ _ h => h) rfl (fun W => (rn_move (hF699.get rfl))) ?_
            intro a700 hF701; clear hF699
            refine any_pure (i := 2) (v := (.pointer (some ⟨g2, 0 + k5, none⟩))) hF701 (by decide +kernel) (by decide +kernel) rfl rfl rfl rfl (fun _ _ _ _ h => h) rfl (fun W => (rn_indexArr Tryd.underlying48 (by kernel_rfl : (Tryd.prog.info? 47).map (·.size) = some 1) (hF701.get rfl) (hF701.get rfl) (by omega : (0 : Int) ≤ (k5 : Nat)) (by omega : ((k5 : Nat) : Int) < ((8 : Nat) : Int)))) ?_
            intro a702 hF703; clear hF701
            have b705 : Blk w694 g2 48 (u32Vals hh2) := (b671.ext hx695)
            have b706 : Blk w694 g125 62 (u32Vals v) := (b674.ext hx695)
            have hS704 : Ext w694 w694 ∧ Blk w694 g2 48 (u32Vals hh2) ∧ Blk w694 g125 62 (u32Vals v) := ⟨(Ext.refl w694), b705, b706⟩
            refine any_val (i := 3) (v := (.int .u32 ((hh2.getD k5 0).toNat : Nat))) hF703 (by decide +kernel) (by decide +kernel) rfl rfl rfl rfl (fun _ _ _ _ h => h) rfl hS704 (fun W hW => (rn_load (isAgg_no Tryd.underlying47 rfl) (hF703.get rfl) (blk_word hW.2.1 (by omega) (by have := (show List.length hh2 = _ from hhl); omega)))) ?_
            intro a707 hF708; clear hF703
            refine any_pure (i := 4) (v := (.int .i64 (k5 : Nat))) hF708 (by decide +kernel) (by decide +kernel) rfl rfl rfl rfl (fun _ _ _ _ h => h) rfl (fun W => (rn_move (hF708.get rfl))) ?_
            intro a709 hF710; clear hF708
            refine any_pure (i := 5) (v := (.pointer (some ⟨g125, 0 + k5, none⟩))) hF710 (by decide +kernel) (by decide +kernel) rfl rfl rfl rfl (fun _ _ _ _ h => h) rfl (fun W => (rn_indexArr Tryd.underlying62 (by kernel_rfl : (Tryd.prog.info? 47).map (·.size) = some 1) (hF710.get rfl) (hF710.get rfl) (by omega : (0 : Int) ≤ (k5 : Nat)) (by omega : ((k5 : Nat) : Int) < ((16 : Nat) : Int)))) ?_
            intro a711 hF712; clear hF710
            refine any_val (i := 6) (v := (.int .u32 ((v.getD k5 0).toNat : Nat))) hF712 (by decide +kernel) (by decide +kernel) rfl rfl rfl rfl (fun _ _ _ _ h => h) rfl hS704 (fun W hW => (rn_load (isAgg_no Tryd.underlying47 rfl) (hF712.get rfl) (blk_word hW.2.2 (by omega) (by have := (show List.length v = _ from hvl); omega)))) ?_
            intro a713 hF714; clear hF712
            refine any_pure (i := 7) (v := (.int .u32 (((hh2.getD k5 0) ^^^ (v.getD k5 0)).toNat : Nat))) hF714 (by decide +kernel) (by decide +kernel) rfl rfl rfl rfl (fun _ _ _ _ h => h) rfl (fun W => (rn_xor32 (a := (hh2.getD k5 0)) (b := (v.getD k5 0)) (hF714.get rfl) (hF714.get rfl))) ?_
            intro a715 hF716; clear hF714
            refine any_pure (i := 8) (v := (.int .i64 (k5 : Nat))) hF716 (by decide +kernel) (by decide +kernel) rfl rfl rfl rfl (fun _ _ _ _ h => h) rfl (fun W => (rn_move (hF716.get rfl))) ?_
            intro a717 hF718; clear hF716
            refine any_pure (i := 9) (v := (.int .i64 (8 + k5 : Nat))) hF718 (by decide +kernel) (by decide +kernel) rfl rfl rfl rfl (fun _ _ _ _ h => h) rfl (fun W => (rn_addN (a := 8) (b := k5) rfl (hF718.get rfl) (by omega))) ?_
            intro a719 hF720; clear hF718
            refine any_pure (i := 10) (v := (.pointer (some ⟨g125, 0 + (8 + k5), none⟩))) hF720 (by decide +kernel) (by decide +kernel) rfl rfl rfl rfl (fun _ _ _ _ h => h) rfl (fun W => (rn_indexArr Tryd.underlying62 (by kernel_rfl : (Tryd.prog.info? 47).map (·.size) = some 1) (hF720.get rfl) (hF720.get rfl) (by omega : (0 : Int) ≤ (8 + k5 : Nat)) (by omega : ((8 + k5 : Nat) : Int) < ((16 : Nat) : Int)))) ?_
            intro a721 hF722; clear hF720
            refine any_val (i := 11) (v := (.int .u32 ((v.getD (8 + k5) 0).toNat : Nat))) hF722 (by decide +kernel) (by decide +kernel) rfl rfl rfl rfl (fun _ _ _ _ h => h) rfl hS704 (fun W hW => (rn_load (isAgg_no Tryd.underlying47 rfl) (hF722.get rfl) (blk_word hW.2.2 (by omega) (by have := (show List.length v = _ from hvl); omega)))) ?_
            intro a723 hF724; clear hF722
            refine any_pure (i := 12) (v := (.int .u32 ((((hh2.getD k5 0) ^^^ (v.getD k5 0)) ^^^ (v.getD (8 + k5) 0)).toNat : Nat))) hF724 (by decide +kernel) (by decide +kernel) rfl rfl rfl rfl (fun _ _ _ _ h => h) rfl (fun W => (rn_xor32 (a := ((hh2.getD k5 0) ^^^ (v.getD k5 0))) (b := (v.getD (8 + k5) 0)) (hF724.get rfl) (hF724.get rfl))) ?_
            intro a725 hF726; clear hF724
            refine any_pure (i := 13) (v := (.pointer (some ⟨g2, 0 + k5, none⟩))) hF726 (by decide +kernel) (by decide +kernel) rfl rfl rfl rfl (fun _ _ _ _ h => h) rfl (fun W => (rn_indexArr Tryd.underlying48 (by kernel_rfl : (Tryd.prog.info? 47).map (·.size) = some 1) (hF726.get rfl) (hF726.get rfl) (by omega : (0 : Int) ≤ (k5 : Nat)) (by omega : ((k5 : Nat) : Int) < ((8 : Nat) : Int)))) ?_
            intro a727 hF728; clear hF726
            refine any_one (i := 14) (by decide +kernel) rfl ?_
            refine o_store1 (new := (u32Vals (hh2.set k5 (((hh2.getD k5 0) ^^^ (v.getD k5 0)) ^^^ (v.getD (8 + k5) 0))))) hF728 rfl rfl rfl rfl (hF728.get rfl) (hF728.get rfl) b705 (by kernel_rfl : (Tryd.prog.info? 47).map (·.size) = some 1) (by rw [u32Vals_len hhl]; omega) rfl (u32Vals_set (by omega)) ?_
            intro w729 b730 hg731; have z732 := hg731.size
            refine ⟨fun h => absurd h (by decide), ?_⟩
            refine any_nil (by decide +kernel) ?_
            refine hK693 _ _ ?_
            clear hK693
            have hF733 := (((((((((((((((((((hF728.nil.cons (hF728.get (t := 164) (v := (.bool (decide (((k5 : Nat) : Int) < (8 : Int))))) rfl)).cons (hF728.get (t := 19) (v := (.int .i64 (k5 : Nat))) rfl)).cons (hF728.get (t := 79) (v := (.bool (decide (((r : Nat) : Int) < (10 : Int))))) rfl)).cons (hF728.get (t := 15) (v := (.int .i64 (r : Nat))) rfl)).cons (hF728.get (t := 14) (v := (.pointer (some ⟨g299, 0, none⟩))) rfl)).cons (hF728.get (t := 72) (v := (.bool last)) rfl)).cons (hF728.get (t := 45) (v := (.bool (decide (((k1 : Nat) : Int) < (8 : Int))))) rfl)).cons (hF728.get (t := 13) (v := (.int .i64 (k1 : Nat))) rfl)).cons (hF728.get (t := 12) (v := (.pointer (some ⟨g143, 0, none⟩))) rfl)).cons (hF728.get (t := 11) (v := (.pointer (some ⟨g125, 0, none⟩))) rfl)).cons (hF728.get (t := 22) (v := (.bool (decide (((k : Nat) : Int) < (64 : Int))))) rfl)).cons (hF728.get (t := 10) (v := (.int .i64 (k : Nat))) rfl)).cons (hF728.get (t := 9) (v := (.pointer (some ⟨g21, 0, none⟩))) rfl)).cons (hF728.get (t := 8) (v := (.pointer (some ⟨g10, 0, none⟩))) rfl)).cons (hF728.get (t := 4) (v := (.pointer (some ⟨g2, 0, none⟩))) rfl)).cons (hF728.get (t := 3) (v := (.bool last)) rfl)).cons (hF728.get (t := 2) (v := (.int .u64 (n.toNat : Nat))) rfl)).cons (hF728.get (t := 1) (v := (.slice A 64 c)) rfl)).cons (hF728.get (t := 0) (v := (.agg (u32Vals h).toArray)) rfl))
            clear hF728
            refine wp_region_lit ?_
            refine wpl_op (i := 0) rfl (o_val (v := (.int .i64 (k5 : Nat))) hF733 rfl rfl rfl rfl (rn_move (hF733.get rfl)) ?_)
            intro a734 hF735; clear hF733
            refine wpl_op (i := 1) rfl (o_val (v := (.int .i64 (k5 + 1 : Nat))) hF735 rfl rfl rfl rfl (rn_addN (a := k5) (b := 1) (hF735.get rfl) rfl (by omega)) ?_)
            intro a736 hF737; clear hF735
            refine wpl_op (i := 2) rfl (o_val (v := (.int .i64 (k5 + 1 : Nat))) hF737 rfl rfl rfl rfl (rn_assign (hF737.get rfl)) ?_)
            intro a738 hF739; clear hF737
            refine wpList_nil ?_
            obtain ⟨v740, e741⟩ : ∃ z, z = hh2.set k5 (((hh2.getD k5 0) ^^^ (v.getD k5 0)) ^^^ (v.getD (8 + k5) 0)) := ⟨_, rfl⟩
            have hl742 : v740.length = 8 := (congrArg List.length e741).trans (show List.length (hh2.set k5 (((hh2.getD k5 0) ^^^ (v.getD k5 0)) ^^^ (v.getD (8 + k5) 0))) = _ from List.length_set.trans hhl)
            rw [← e741] at b730
            have b743 : Blk w729 g10 48 (u32Vals (List.replicate 8 0)) := ((b672.ext hx695).grownN hg731 (by omega))
            have b744 : Blk w729 g21 62 (u32Vals m) := ((b673.ext hx695).grownN hg731 (by omega))
            have b745 : Blk w729 g125 62 (u32Vals v) := (b706.grownN hg731 (by omega))
            have b746 : Blk w729 g143 48 (u32Vals iv) := ((b675.ext hx695).grownN hg731 (by omega))
            have b747 : Blk w729 g299 70 (intVals permI) := ((b676.ext hx695).grownN hg731 (by omega))
            refine ⟨⟨(k5 + 1), v740, ((((((((((((((((((hF739.nil.cons (q_get hF739 (t := 19) rfl (by first | rfl | (congr 1; omega) | (congr 1; done)))).cons (q_get hF739 (t := 79) rfl rfl)).cons (q_get hF739 (t := 15) rfl rfl)).cons (q_get hF739 (t := 14) rfl rfl)).cons (q_get hF739 (t := 72) rfl rfl)).cons (q_get hF739 (t := 45) rfl rfl)).cons (q_get hF739 (t := 13) rfl rfl)).cons (q_get hF739 (t := 12) rfl rfl)).cons (q_get hF739 (t := 11) rfl rfl)).cons (q_get hF739 (t := 22) rfl rfl)).cons (q_get hF739 (t := 10) rfl rfl)).cons (q_get hF739 (t := 9) rfl rfl)).cons (q_get hF739 (t := 8) rfl rfl)).cons (q_get hF739 (t := 4) rfl rfl)).cons (q_get hF739 (t := 3) rfl rfl)).cons (q_get hF739 (t := 2) rfl rfl)).cons (q_get hF739 (t := 1) rfl rfl)).cons (q_get hF739 (t := 0) rfl rfl)), (by omega), (closeTo_r hp670 e741), ((((Ext.refl w).trans hx668).trans hx695).grownN hg731 (by omega)), b730, b743, b744, b745, b746, b747, (by omega)⟩, ?_⟩
            rw [hF739.get (t := 19) rfl, hL678.get (t := 19) rfl]; simp [intOf] <;> omega
          · skip
            refine wp_cond_false (c_false hF691 rfl (decide_eq_false hc692)) ?_
            refine wp_exit ?_
            refine exit_then ?_
            refine exit_then ?_
            refine exit_here ?_
            refine hK661 _ _ ?_
            clear hK661
            refine wp_seq_k (fun K748 hK748 => ?_)
            refine wp_region_lit ?_
            refine wpl_op (i := 0) rfl (o_val (v := (.agg (u32Vals hh2).toArray)) hF691 rfl rfl rfl rfl (rn_loadBlk (hF691.get rfl) b671 Tryd.underlying48 rfl ((by kernel_rfl : (Tryd.prog.info? 48).map (·.size) = some 8).trans (congrArg some (u32Vals_len hhl).symm))) ?_)
            intro a749 hF750; clear hF691
            refine wpl_op (i := 1) rfl (o_store (cells := (u32Vals hh2)) hF750 rfl rfl rfl rfl (hF750.get rfl) (hF750.get rfl) b672 ((by kernel_rfl : (Tryd.prog.info? 48).map (·.size) = some 8).trans (congrArg some (u32Vals_len hhl).symm)) ((u32Vals_len (show List.length (List.replicate 8 0) = _ from List.length_replicate)).trans (u32Vals_len hhl).symm) (u32Vals_one _) ?_)
            intro w751 b752 hg753; have z754 := hg753.size
            refine wpList_nil ?_
            refine hK748 _ _ ?_
            clear hK748
            refine wp_ret ?_
            refine retC hF750 rfl rfl b752 Tryd.underlying48 rfl ((by kernel_rfl : (Tryd.prog.info? 48).map (·.size) = some 8).trans (congrArg some (u32Vals_len hhl).symm)) ?_
            have hk8 : k5 = 8 := by omega
            subst hk8
            exact ⟨by rw [absorb_eq hv10 hp670], (((Ext.refl w).trans hx668).grownN hg753 (by omega))⟩
      · skip
        refine wp_cond_false (c_false hF278 rfl hc279) ?_
        refine wp_skip ?_
        refine hK275 _ _ ?_
        clear hK275
        refine wp_seq_k (fun K755 hK755 => ?_)
        refine wp_region_lit ?_
        refine wpl_op (i := 0) rfl (o_call hF278 rfl rfl rfl rfl (rn_call (args0 ) rfl (by kernel_rfl)) (rperm_any _) ?_)
        rintro _ w756 ⟨rfl, hx757⟩
        refine ⟨_, rfl, ?_⟩; intro a758 hF759; clear hF278; have z760 := hx757.size
        refine wpl_op (i := 1) rfl (o_new (fun g => (.pointer (some ⟨g, 0, none⟩))) (intVals (List.replicate 160 0)) 70 hF759 rfl rfl rfl rfl (by kernel_rfl) ?_)
        intro g761 w762 a767 hF768 z765 z766 b763 hx764; clear hF759
        refine wpl_op (i := 2) rfl (o_store (cells := (intVals permI)) hF768 rfl rfl rfl rfl (hF768.get rfl) (hF768.get rfl) b763 ((by kernel_rfl : (Tryd.prog.info? 70).map (·.size) = some 160).trans (congrArg some (intVals_len permI_len).symm)) ((intVals_len (show List.length (List.replicate 160 0) = _ from List.length_replicate)).trans (intVals_len permI_len).symm) (intVals_one _) ?_)
        intro w769 b770 hg771; have z772 := hg771.size
        refine wpList_nil ?_
        refine hK755 _ _ ?_
        clear hK755
        refine wp_seq_k (fun K773 hK773 => ?_)
        refine wp_seq_k (fun K774 hK774 => ?_)
        refine wp_region_lit ?_
        refine wpl_op (i := 0) rfl (o_val (v := (.int .i64 0)) hF768 rfl rfl rfl rfl (rn_assign rfl) ?_)
        intro a775 hF776; clear hF768
        refine wpList_nil ?_
        refine hK774 _ _ ?_
        clear hK774
        refine wp_block ?_
        have hv0 : v0 = h ++ iv := vTo_done hh (by rw [hp168, show k1 = 8 by omega])
        have b780 : Blk w769 g125 62 (u32Vals ((v0.set 12 ((v0.getD 12 0) ^^^ n.toUInt32)).set 13 (((v0.set 12 ((v0.getD 12 0) ^^^ n.toUInt32)).getD 13 0) ^^^ ((n >>> UInt64.ofNat 32).toUInt32)))) := (((b271.ext hx757).ext hx764).grownN hg771 (by omega))
        obtain ⟨v777, e778⟩ : ∃ z, z = (v0.set 12 ((v0.getD 12 0) ^^^ n.toUInt32)).set 13 (((v0.set 12 ((v0.getD 12 0) ^^^ n.toUInt32)).getD 13 0) ^^^ ((n >>> UInt64.ofNat 32).toUInt32)) := ⟨_, rfl⟩
        have hl779 : v777.length = 16 := (congrArg List.length e778).trans (show List.length ((v0.set 12 ((v0.getD 12 0) ^^^ n.toUInt32)).set 13 (((v0.set 12 ((v0.getD 12 0) ^^^ n.toUInt32)).getD 13 0) ^^^ ((n >>> UInt64.ofNat 32).toUInt32))) = _ from List.length_set.trans (show List.length (v0.set 12 ((v0.getD 12 0) ^^^ n.toUInt32)) = _ from List.length_set.trans hvl0))
        rw [← e778] at b780
        have hv1 : v777 = begin_ h n last := by rw [e778, hv0, hc279]; exact begin_false
        have b781 : Blk w769 g2 48 (u32Vals h) := (((((b169.grownN hg252 (by omega)).grownN hg272 (by omega)).ext hx757).ext hx764).grownN hg771 (by omega))
        have b782 : Blk w769 g10 48 (u32Vals (List.replicate 8 0)) := (((((b170.grownN hg252 (by omega)).grownN hg272 (by omega)).ext hx757).ext hx764).grownN hg771 (by omega))
        have b783 : Blk w769 g21 62 (u32Vals m) := (((((b171.grownN hg252 (by omega)).grownN hg272 (by omega)).ext hx757).ext hx764).grownN hg771 (by omega))
        have b784 : Blk w769 g143 48 (u32Vals iv) := (((((b173.grownN hg252 (by omega)).grownN hg272 (by omega)).ext hx757).ext hx764).grownN hg771 (by omega))
        refine wp_loop (fun a' W => ∃ (r : Nat) (v : List UInt32), Sl 182 [(0, (.agg (u32Vals h).toArray)), (1, (.slice A 64 c)), (2, (.int .u64 (n.toNat : Nat))), (3, (.bool last)), (4, (.pointer (some ⟨g2, 0, none⟩))), (8, (.pointer (some ⟨g10, 0, none⟩))), (9, (.pointer (some ⟨g21, 0, none⟩))), (10, (.int .i64 (k : Nat))), (22, (.bool (decide (((k : Nat) : Int) < (64 : Int))))), (11, (.pointer (some ⟨g125, 0, none⟩))), (12, (.pointer (some ⟨g143, 0, none⟩))), (13, (.int .i64 (k1 : Nat))), (45, (.bool (decide (((k1 : Nat) : Int) < (8 : Int))))), (72, (.bool last)), (14, (.pointer (some ⟨g761, 0, none⟩))), (15, (.int .i64 (r : Nat)))] a' ∧ r ≤ 10 ∧ v = roundTo m v777 r ∧ Ext w W ∧ Blk W g2 48 (u32Vals h) ∧ Blk W g10 48 (u32Vals (List.replicate 8 0)) ∧ Blk W g21 62 (u32Vals m) ∧ Blk W g125 62 (u32Vals v) ∧ Blk W g143 48 (u32Vals iv) ∧ Blk W g761 70 (intVals permI) ∧ w769.heap.size ≤ W.heap.size) (fun a' _ => 10 - (intOf (a'.eval (.tmp 15))).toNat) ⟨0, v777, ((((((((((((((((hF776.nil.cons (q_get hF776 (t := 15) rfl (by first | rfl | (congr 1; omega) | (congr 1; done)))).cons (q_get hF776 (t := 14) rfl rfl)).cons (q_get hF776 (t := 72) rfl rfl)).cons (q_get hF776 (t := 45) rfl rfl)).cons (q_get hF776 (t := 13) rfl rfl)).cons (q_get hF776 (t := 12) rfl rfl)).cons (q_get hF776 (t := 11) rfl rfl)).cons (q_get hF776 (t := 22) rfl rfl)).cons (q_get hF776 (t := 10) rfl rfl)).cons (q_get hF776 (t := 9) rfl rfl)).cons (q_get hF776 (t := 8) rfl rfl)).cons (q_get hF776 (t := 4) rfl rfl)).cons (q_get hF776 (t := 3) rfl rfl)).cons (q_get hF776 (t := 2) rfl rfl)).cons (q_get hF776 (t := 1) rfl rfl)).cons (q_get hF776 (t := 0) rfl rfl)), (by omega), rfl, (((((((Ext.refl w).trans hx166).grownN hg252 (by omega)).grownN hg272 (by omega)).trans hx757).trans hx764).grownN hg771 (by omega)), b781, b782, b783, b780, b784, b770, (Nat.le_refl _)⟩ ?_
        clear hF776
        rintro a785 w786 ⟨r, v, hF787, hp789, hp790, hx788, b791, b792, b793, b794, b795, b796, hf797⟩
        have hL798 := hF787
        have z799 := hx788.size
        have z800 := b791.lt
        have z801 := b792.lt
        have z802 := b793.lt
        have z803 := b794.lt
        have z804 := b795.lt
        have z805 := b796.lt
        have hvl : v.length = 16 := by rw [hp790]; exact roundTo_len hl779
        refine wp_seq_k (fun K806 hK806 => ?_)
        refine wp_seq_k (fun K807 hK807 => ?_)
        refine wp_region_lit ?_
        refine wpl_op (i := 0) rfl (o_val (v := (.int .i64 (r : Nat))) hF787 rfl rfl rfl rfl (rn_move (hF787.get rfl)) ?_)
        intro a808 hF809; clear hF787
        refine wpl_op (i := 1) rfl (o_val (v := (.bool (decide (((r : Nat) : Int) < (10 : Int))))) hF809 rfl rfl rfl rfl (rn_lss (hF809.get rfl) rfl) ?_)
        intro a810 hF811; clear hF809
        refine wpList_nil ?_
        refine hK807 _ _ ?_
        clear hK807
        by_cases hc812 : ((r : Nat) : Int) < (10 : Int)
        · skip
          refine wp_cond_true (c_true hF811 rfl (decide_eq_true hc812)) ?_
          refine wp_skip ?_
          refine hK806 _ _ ?_
          clear hK806
          refine wp_seq_k (fun K813 hK813 => ?_)
          refine wp_block ?_
          refine wp_seq_k (fun K814 hK814 => ?_)
          refine wp_region_lit ?_
          refine wpl_op (i := 0) rfl (o_val (v := (.int .i64 0)) hF811 rfl rfl rfl rfl (rn_assign rfl) ?_)
          intro a815 hF816; clear hF811
          refine wpList_nil ?_
          refine hK814 _ _ ?_
          clear hK814
          refine wp_block ?_
          refine wp_loop (fun a' W => ∃ (i2 : Nat) (v2 : List UInt32), Sl 182 [(0, (.agg (u32Vals h).toArray)), (1, (.slice A 64 c)), (2, (.int .u64 (n.toNat : Nat))), (3, (.bool last)), (4, (.pointer (some ⟨g2, 0, none⟩))), (8, (.pointer (some ⟨g10, 0, none⟩))), (9, (.pointer (some ⟨g21, 0, none⟩))), (10, (.int .i64 (k : Nat))), (22, (.bool (decide (((k : Nat) : Int) < (64 : Int))))), (11, (.pointer (some ⟨g125, 0, none⟩))), (12, (.pointer (some ⟨g143, 0, none⟩))), (13, (.int .i64 (k1 : Nat))), (45, (.bool (decide (((k1 : Nat) : Int) < (8 : Int))))), (72, (.bool last)), (14, (.pointer (some ⟨g761, 0, none⟩))), (15, (.int .i64 (r : Nat))), (79, (.bool (decide (((r : Nat) : Int) < (10 : Int))))), (16, (.int .i64 (i2 : Nat)))] a' ∧ i2 ≤ 8 ∧ v2 = mixTo m (permRow r) v i2 ∧ Ext w W ∧ Blk W g2 48 (u32Vals h) ∧ Blk W g10 48 (u32Vals (List.replicate 8 0)) ∧ Blk W g21 62 (u32Vals m) ∧ Blk W g125 62 (u32Vals v2) ∧ Blk W g143 48 (u32Vals iv) ∧ Blk W g761 70 (intVals permI) ∧ w786.heap.size ≤ W.heap.size) (fun a' _ => 8 - (intOf (a'.eval (.tmp 16))).toNat) ⟨0, v, ((((((((((((((((((hF816.nil.cons (q_get hF816 (t := 16) rfl (by first | rfl | (congr 1; omega) | (congr 1; done)))).cons (q_get hF816 (t := 79) rfl rfl)).cons (q_get hF816 (t := 15) rfl rfl)).cons (q_get hF816 (t := 14) rfl rfl)).cons (q_get hF816 (t := 72) rfl rfl)).cons (q_get hF816 (t := 45) rfl rfl)).cons (q_get hF816 (t := 13) rfl rfl)).cons (q_get hF816 (t := 12) rfl rfl)).cons (q_get hF816 (t := 11) rfl rfl)).cons (q_get hF816 (t := 22) rfl rfl)).cons (q_get hF816 (t := 10) rfl rfl)).cons (q_get hF816 (t := 9) rfl rfl)).cons (q_get hF816 (t := 8) rfl rfl)).cons (q_get hF816 (t := 4) rfl rfl)).cons (q_get hF816 (t := 3) rfl rfl)).cons (q_get hF816 (t := 2) rfl rfl)).cons (q_get hF816 (t := 1) rfl rfl)).cons (q_get hF816 (t := 0) rfl rfl)), (by omega), rfl, ((Ext.refl w).trans hx788), b791, b792, b793, b794, b795, b796, (Nat.le_refl _)⟩ ?_
          clear hF816
          rintro a817 w818 ⟨i2, v2, hF819, hp821, hp822, hx820, b823, b824, b825, b826, b827, b828, hf829⟩
          have hL830 := hF819
          have z831 := hx820.size
          have z832 := b823.lt
          have z833 := b824.lt
          have z834 := b825.lt
          have z835 := b826.lt
          have z836 := b827.lt
          have z837 := b828.lt
          have hvl2 : v2.length = 16 := by rw [hp822]; exact mixTo_len hvl
          refine wp_seq_k (fun K838 hK838 => ?_)
          refine wp_seq_k (fun K839 hK839 => ?_)
          refine wp_region_lit ?_
          refine wpl_op (i := 0) rfl (o_val (v := (.int .i64 (i2 : Nat))) hF819 rfl rfl rfl rfl (rn_move (hF819.get rfl)) ?_)
          intro a840 hF841; clear hF819
          refine wpl_op (i := 1) rfl (o_val (v := (.bool (decide (((i2 : Nat) : Int) < (8 : Int))))) hF841 rfl rfl rfl rfl (rn_lss (hF841.get rfl) rfl) ?_)
          intro a842 hF843; clear hF841
          refine wpList_nil ?_
          refine hK839 _ _ ?_
          clear hK839
          by_cases hc844 : ((i2 : Nat) : Int) < (8 : Int)
          · skip
            refine wp_cond_true (c_true hF843 rfl (decide_eq_true hc844)) ?_
            refine wp_skip ?_
            refine hK838 _ _ ?_
            clear hK838
            refine wp_seq_k (fun K845 hK845 => ?_)
            refine wp_block ?_
            refine wp_seq_k (fun K846 hK846 => ?_)
            refine wp_region_lit ?_
            refine wpl_op (i := 0) rfl (o_val (v := (.int .i64 (i2 : Nat))) hF843 rfl rfl rfl rfl (rn_move (hF843.get rfl)) ?_)
            intro a847 hF848; clear hF843
            refine wpl_op (i := 1) rfl (o_val (v := (.int .i64 (i2 % 4 : Nat))) hF848 rfl rfl rfl rfl (rn_remN (a := i2) (b := 4) (hF848.get rfl) rfl (by omega)) ?_)
            intro a849 hF850; clear hF848
            refine wpl_op (i := 2) rfl (o_val (v := (.int .i64 (i2 % 4 : Nat))) hF850 rfl rfl rfl rfl (rn_assign (hF850.get rfl)) ?_)
            intro a851 hF852; clear hF850
            refine wpList_nil ?_
            refine hK846 _ _ ?_
            clear hK846
            refine wp_seq_k (fun K853 hK853 => ?_)
            refine wp_region_lit ?_
            refine wpl_op (i := 0) rfl (o_val (v := (.int .i64 (i2 % 4 : Nat))) hF852 rfl rfl rfl rfl (rn_move (hF852.get rfl)) ?_)
            intro a854 hF855; clear hF852
            refine wpl_op (i := 1) rfl (o_val (v := (.int .i64 (i2 % 4 : Nat))) hF855 rfl rfl rfl rfl (rn_move (hF855.get rfl)) ?_)
            intro a856 hF857; clear hF855
            refine wpl_op (i := 2) rfl (o_val (v := (.int .i64 (4 + (i2 % 4) : Nat))) hF857 rfl rfl rfl rfl (rn_addN (a := 4) (b := i2 % 4) rfl (hF857.get rfl) (by omega)) ?_)
            intro a858 hF859; clear hF857
            refine wpl_op (i := 3) rfl (o_val (v := (.int .i64 (i2 % 4 : Nat))) hF859 rfl rfl rfl rfl (rn_move (hF859.get rfl)) ?_)
            intro a860 hF861; clear hF859
            refine wpl_op (i := 4) rfl (o_val (v := (.int .i64 (8 + (i2 % 4) : Nat))) hF861 rfl rfl rfl rfl (rn_addN (a := 8) (b := i2 % 4) rfl (hF861.get rfl) (by omega)) ?_)
            intro a862 hF863; clear hF861
            refine wpl_op (i := 5) rfl (o_val (v := (.int .i64 (i2 % 4 : Nat))) hF863 rfl rfl rfl rfl (rn_move (hF863.get rfl)) ?_)
            intro a864 hF865; clear hF863
            refine wpl_op (i := 6) rfl (o_val (v := (.int .i64 (12 + (i2 % 4) : Nat))) hF865 rfl rfl rfl rfl (rn_addN (a := 12) (b := i2 % 4) rfl (hF865.get rfl) (by omega)) ?_)
            intro a866 hF867; clear hF865
            refine wpl_op (i := 7) rfl (o_val (v := (.agg (intVals ([((i2 % 4 : Nat) : Int), ((4 + (i2 % 4) : Nat) : Int), ((8 + (i2 % 4) : Nat) : Int), ((12 + (i2 % 4) : Nat) : Int)])).toArray)) hF867 rfl rfl rfl rfl (rn_build (parts4 (hF867.get rfl) (hF867.get rfl) (hF867.get rfl) (hF867.get rfl)) (by kernel_rfl)) ?_)
            intro a868 hF869; clear hF867
            refine wpl_op (i := 8) rfl (o_new (fun g => (.pointer (some ⟨g, 0, none⟩))) (intVals (List.replicate 4 0)) 72 hF869 rfl rfl rfl rfl (by kernel_rfl) ?_)
            intro g870 w871 a876 hF877 z874 z875 b872 hx873; clear hF869
            refine wpl_op (i := 9) rfl (o_store (cells := (intVals ([((i2 % 4 : Nat) : Int), ((4 + (i2 % 4) : Nat) : Int), ((8 + (i2 % 4) : Nat) : Int), ((12 + (i2 % 4) : Nat) : Int)]))) hF877 rfl rfl rfl rfl (hF877.get rfl) (hF877.get rfl) b872 ((by kernel_rfl : (Tryd.prog.info? 72).map (·.size) = some 4).trans (congrArg some (intVals_len (show List.length [((i2 % 4 : Nat) : Int), ((4 + (i2 % 4) : Nat) : Int), ((8 + (i2 % 4) : Nat) : Int), ((12 + (i2 % 4) : Nat) : Int)] = 4 from rfl)).symm)) ((intVals_len (show List.length (List.replicate 4 0) = _ from List.length_replicate)).trans (intVals_len (show List.length [((i2 % 4 : Nat) : Int), ((4 + (i2 % 4) : Nat) : Int), ((8 + (i2 % 4) : Nat) : Int), ((12 + (i2 % 4) : Nat) : Int)] = 4 from rfl)).symm) (intVals_one _) ?_)
            intro w878 b879 hg880; have z881 := hg880.size
            refine wpList_nil ?_
            refine hK853 _ _ ?_
            clear hK853
            have hF882 := (((((((((((((((((((((hF877.nil.cons (hF877.get (t := 18) (v := (.pointer (some ⟨g870, 0, none⟩))) rfl)).cons (hF877.get (t := 17) (v := (.int .i64 (i2 % 4 : Nat))) rfl)).cons (hF877.get (t := 83) (v := (.bool (decide (((i2 : Nat) : Int) < (8 : Int))))) rfl)).cons (hF877.get (t := 16) (v := (.int .i64 (i2 : Nat))) rfl)).cons (hF877.get (t := 79) (v := (.bool (decide (((r : Nat) : Int) < (10 : Int))))) rfl)).cons (hF877.get (t := 15) (v := (.int .i64 (r : Nat))) rfl)).cons (hF877.get (t := 14) (v := (.pointer (some ⟨g761, 0, none⟩))) rfl)).cons (hF877.get (t := 72) (v := (.bool last)) rfl)).cons (hF877.get (t := 45) (v := (.bool (decide (((k1 : Nat) : Int) < (8 : Int))))) rfl)).cons (hF877.get (t := 13) (v := (.int .i64 (k1 : Nat))) rfl)).cons (hF877.get (t := 12) (v := (.pointer (some ⟨g143, 0, none⟩))) rfl)).cons (hF877.get (t := 11) (v := (.pointer (some ⟨g125, 0, none⟩))) rfl)).cons (hF877.get (t := 22) (v := (.bool (decide (((k : Nat) : Int) < (64 : Int))))) rfl)).cons (hF877.get (t := 10) (v := (.int .i64 (k : Nat))) rfl)).cons (hF877.get (t := 9) (v := (.pointer (some ⟨g21, 0, none⟩))) rfl)).cons (hF877.get (t := 8) (v := (.pointer (some ⟨g10, 0, none⟩))) rfl)).cons (hF877.get (t := 4) (v := (.pointer (some ⟨g2, 0, none⟩))) rfl)).cons (hF877.get (t := 3) (v := (.bool last)) rfl)).cons (hF877.get (t := 2) (v := (.int .u64 (n.toNat : Nat))) rfl)).cons (hF877.get (t := 1) (v := (.slice A 64 c)) rfl)).cons (hF877.get (t := 0) (v := (.agg (u32Vals h).toArray)) rfl))
            clear hF877
            refine wp_meet (fun a' W => ∃ (pa pb pc pd : Nat), Sl 182 [(0, (.agg (u32Vals h).toArray)), (1, (.slice A 64 c)), (2, (.int .u64 (n.toNat : Nat))), (3, (.bool last)), (4, (.pointer (some ⟨g2, 0, none⟩))), (8, (.pointer (some ⟨g10, 0, none⟩))), (9, (.pointer (some ⟨g21, 0, none⟩))), (10, (.int .i64 (k : Nat))), (22, (.bool (decide (((k : Nat) : Int) < (64 : Int))))), (11, (.pointer (some ⟨g125, 0, none⟩))), (12, (.pointer (some ⟨g143, 0, none⟩))), (13, (.int .i64 (k1 : Nat))), (45, (.bool (decide (((k1 : Nat) : Int) < (8 : Int))))), (72, (.bool last)), (14, (.pointer (some ⟨g761, 0, none⟩))), (15, (.int .i64 (r : Nat))), (79, (.bool (decide (((r : Nat) : Int) < (10 : Int))))), (16, (.int .i64 (i2 : Nat))), (83, (.bool (decide (((i2 : Nat) : Int) < (8 : Int))))), (17, (.int .i64 (i2 % 4 : Nat))), (18, (.pointer (some ⟨g870, 0, none⟩)))] a' ∧ Ext w W ∧ Blk W g2 48 (u32Vals h) ∧ Blk W g10 48 (u32Vals (List.replicate 8 0)) ∧ Blk W g21 62 (u32Vals m) ∧ Blk W g125 62 (u32Vals v2) ∧ Blk W g143 48 (u32Vals iv) ∧ Blk W g761 70 (intVals permI) ∧ Blk W g870 72 (intVals [((pa : Nat) : Int), ((pb : Nat) : Int), ((pc : Nat) : Int), ((pd : Nat) : Int)]) ∧ ((i2 < 4 ∧ pa = i2 % 4 ∧ pb = 4 + i2 % 4 ∧ pc = 8 + i2 % 4 ∧ pd = 12 + i2 % 4) ∨ (¬ i2 < 4 ∧ pa = i2 % 4 ∧ pb = 4 + (i2 % 4 + 1) % 4 ∧ pc = 8 + (i2 % 4 + 2) % 4 ∧ pd = 12 + (i2 % 4 + 3) % 4)) ∧ w878.heap.size ≤ W.heap.size) ?_ ?_
            · skip
              refine wp_seq_k (fun K883 hK883 => ?_)
              refine wp_region_lit ?_
              refine wpl_op (i := 0) rfl (o_val (v := (.int .i64 (i2 : Nat))) hF882 rfl rfl rfl rfl (rn_move (hF882.get rfl)) ?_)
              intro a884 hF885; clear hF882
              refine wpl_op (i := 1) rfl (o_val (v := (.bool (decide ((4 : Int) ≤ ((i2 : Nat) : Int))))) hF885 rfl rfl rfl rfl (rn_geq (hF885.get rfl) rfl) ?_)
              intro a886 hF887; clear hF885
              refine wpList_nil ?_
              refine hK883 _ _ ?_
              clear hK883
              by_cases hc888 : (4 : Int) ≤ ((i2 : Nat) : Int)
              · skip
                refine wp_cond_true (c_true hF887 rfl (decide_eq_true hc888)) ?_
                refine wp_region_lit ?_
                refine wpl_op (i := 0) rfl (o_val (v := (.int .i64 (i2 % 4 : Nat))) hF887 rfl rfl rfl rfl (rn_move (hF887.get rfl)) ?_)
                intro a889 hF890; clear hF887
                refine wpl_op (i := 1) rfl (o_val (v := (.int .i64 (i2 % 4 : Nat))) hF890 rfl rfl rfl rfl (rn_move (hF890.get rfl)) ?_)
                intro a891 hF892; clear hF890
                refine wpl_op (i := 2) rfl (o_val (v := (.int .i64 ((i2 % 4) + 1 : Nat))) hF892 rfl rfl rfl rfl (rn_addN (a := i2 % 4) (b := 1) (hF892.get rfl) rfl (by omega)) ?_)
                intro a893 hF894; clear hF892
                refine wpl_op (i := 3) rfl (o_val (v := (.int .i64 (((i2 % 4) + 1) % 4 : Nat))) hF894 rfl rfl rfl rfl (rn_remN (a := (i2 % 4) + 1) (b := 4) (hF894.get rfl) rfl (by omega)) ?_)
                intro a895 hF896; clear hF894
                refine wpl_op (i := 4) rfl (o_val (v := (.int .i64 (4 + (((i2 % 4) + 1) % 4) : Nat))) hF896 rfl rfl rfl rfl (rn_addN (a := 4) (b := ((i2 % 4) + 1) % 4) rfl (hF896.get rfl) (by omega)) ?_)
                intro a897 hF898; clear hF896
                refine wpl_op (i := 5) rfl (o_val (v := (.int .i64 (i2 % 4 : Nat))) hF898 rfl rfl rfl rfl (rn_move (hF898.get rfl)) ?_)
                intro a899 hF900; clear hF898
                refine wpl_op (i := 6) rfl (o_val (v := (.int .i64 ((i2 % 4) + 2 : Nat))) hF900 rfl rfl rfl rfl (rn_addN (a := i2 % 4) (b := 2) (hF900.get rfl) rfl (by omega)) ?_)
                intro a901 hF902; clear hF900
                refine wpl_op (i := 7) rfl (o_val (v := (.int .i64 (((i2 % 4) + 2) % 4 : Nat))) hF902 rfl rfl rfl rfl (rn_remN (a := (i2 % 4) + 2) (b := 4) (hF902.get rfl) rfl (by omega)) ?_)
                intro a903 hF904; clear hF902
                refine wpl_op (i := 8) rfl (o_val (v := (.int .i64 (8 + (((i2 % 4) + 2) % 4) : Nat))) hF904 rfl rfl rfl rfl (rn_addN (a := 8) (b := ((i2 % 4) + 2) % 4) rfl (hF904.get rfl) (by omega)) ?_)
                intro a905 hF906; clear hF904
                refine wpl_op (i := 9) rfl (o_val (v := (.int .i64 (i2 % 4 : Nat))) hF906 rfl rfl rfl rfl (rn_move (hF906.get rfl)) ?_)
                intro a907 hF908; clear hF906
                refine wpl_op (i := 10) rfl (o_val (v := (.int .i64 ((i2 % 4) + 3 : Nat))) hF908 rfl rfl rfl rfl (rn_addN (a := i2 % 4) (b := 3) (hF908.get rfl) rfl (by omega)) ?_)
                intro a909 hF910; clear hF908
                refine wpl_op (i := 11) rfl (o_val (v := (.int .i64 (((i2 % 4) + 3) % 4 : Nat))) hF910 rfl rfl rfl rfl (rn_remN (a := (i2 % 4) + 3) (b := 4) (hF910.get rfl) rfl (by omega)) ?_)
                intro a911 hF912; clear hF910
                refine wpl_op (i := 12) rfl (o_val (v := (.int .i64 (12 + (((i2 % 4) + 3) % 4) : Nat))) hF912 rfl rfl rfl rfl (rn_addN (a := 12) (b := ((i2 % 4) + 3) % 4) rfl (hF912.get rfl) (by omega)) ?_)
                intro a913 hF914; clear hF912
                refine wpl_op (i := 13) rfl (o_val (v := (.agg (intVals ([((i2 % 4 : Nat) : Int), ((4 + (((i2 % 4) + 1) % 4) : Nat) : Int), ((8 + (((i2 % 4) + 2) % 4) : Nat) : Int), ((12 + (((i2 % 4) + 3) % 4) : Nat) : Int)])).toArray)) hF914 rfl rfl rfl rfl (rn_build (parts4 (hF914.get rfl) (hF914.get rfl) (hF914.get rfl) (hF914.get rfl)) (by kernel_rfl)) ?_)
                intro a915 hF916; clear hF914
                refine wpl_op (i := 14) rfl (o_store (cells := (intVals ([((i2 % 4 : Nat) : Int), ((4 + (((i2 % 4) + 1) % 4) : Nat) : Int), ((8 + (((i2 % 4) + 2) % 4) : Nat) : Int), ((12 + (((i2 % 4) + 3) % 4) : Nat) : Int)]))) hF916 rfl rfl rfl rfl (hF916.get rfl) (hF916.get rfl) b879 ((by kernel_rfl : (Tryd.prog.info? 72).map (·.size) = some 4).trans (congrArg some (intVals_len (show List.length [((i2 % 4 : Nat) : Int), ((4 + (((i2 % 4) + 1) % 4) : Nat) : Int), ((8 + (((i2 % 4) + 2) % 4) : Nat) : Int), ((12 + (((i2 % 4) + 3) % 4) : Nat) : Int)] = 4 from rfl)).symm)) ((intVals_len (show List.length [((i2 % 4 : Nat) : Int), ((4 + (i2 % 4) : Nat) : Int), ((8 + (i2 % 4) : Nat) : Int), ((12 + (i2 % 4) : Nat) : Int)] = 4 from rfl)).trans (intVals_len (show List.length [((i2 % 4 : Nat) : Int), ((4 + (((i2 % 4) + 1) % 4) : Nat) : Int), ((8 + (((i2 % 4) + 2) % 4) : Nat) : Int), ((12 + (((i2 % 4) + 3) % 4) : Nat) : Int)] = 4 from rfl)).symm) (intVals_one _) ?_)
                intro w917 b918 hg919; have z920 := hg919.size
                refine wpList_nil ?_
                have b921 : Blk w917 g2 48 (u32Vals h) := (((b823.ext hx873).grownN hg880 (by omega)).grownN hg919 (by omega))
                have b922 : Blk w917 g10 48 (u32Vals (List.replicate 8 0)) := (((b824.ext hx873).grownN hg880 (by omega)).grownN hg919 (by omega))
                have b923 : Blk w917 g21 62 (u32Vals m) := (((b825.ext hx873).grownN hg880 (by omega)).grownN hg919 (by omega))
                have b924 : Blk w917 g125 62 (u32Vals v2) := (((b826.ext hx873).grownN hg880 (by omega)).grownN hg919 (by omega))
                have b925 : Blk w917 g143 48 (u32Vals iv) := (((b827.ext hx873).grownN hg880 (by omega)).grownN hg919 (by omega))
                have b926 : Blk w917 g761 70 (intVals permI) := (((b828.ext hx873).grownN hg880 (by omega)).grownN hg919 (by omega))
                exact ⟨i2 % 4, 4 + (((i2 % 4) + 1) % 4), 8 + (((i2 % 4) + 2) % 4), 12 + (((i2 % 4) + 3) % 4), (((((((((((((((((((((hF916.nil.cons (hF916.get (t := 18) (v := (.pointer (some ⟨g870, 0, none⟩))) rfl)).cons (hF916.get (t := 17) (v := (.int .i64 (i2 % 4 : Nat))) rfl)).cons (hF916.get (t := 83) (v := (.bool (decide (((i2 : Nat) : Int) < (8 : Int))))) rfl)).cons (hF916.get (t := 16) (v := (.int .i64 (i2 : Nat))) rfl)).cons (hF916.get (t := 79) (v := (.bool (decide (((r : Nat) : Int) < (10 : Int))))) rfl)).cons (hF916.get (t := 15) (v := (.int .i64 (r : Nat))) rfl)).cons (hF916.get (t := 14) (v := (.pointer (some ⟨g761, 0, none⟩))) rfl)).cons (hF916.get (t := 72) (v := (.bool last)) rfl)).cons (hF916.get (t := 45) (v := (.bool (decide (((k1 : Nat) : Int) < (8 : Int))))) rfl)).cons (hF916.get (t := 13) (v := (.int .i64 (k1 : Nat))) rfl)).cons (hF916.get (t := 12) (v := (.pointer (some ⟨g143, 0, none⟩))) rfl)).cons (hF916.get (t := 11) (v := (.pointer (some ⟨g125, 0, none⟩))) rfl)).cons (hF916.get (t := 22) (v := (.bool (decide (((k : Nat) : Int) < (64 : Int))))) rfl)).cons (hF916.get (t := 10) (v := (.int .i64 (k : Nat))) rfl)).cons (hF916.get (t := 9) (v := (.pointer (some ⟨g21, 0, none⟩))) rfl)).cons (hF916.get (t := 8) (v := (.pointer (some ⟨g10, 0, none⟩))) rfl)).cons (hF916.get (t := 4) (v := (.pointer (some ⟨g2, 0, none⟩))) rfl)).cons (hF916.get (t := 3) (v := (.bool last)) rfl)).cons (hF916.get (t := 2) (v := (.int .u64 (n.toNat : Nat))) rfl)).cons (hF916.get (t := 1) (v := (.slice A 64 c)) rfl)).cons (hF916.get (t := 0) (v := (.agg (u32Vals h).toArray)) rfl)), (((((Ext.refl w).trans hx820).trans hx873).grownN hg880 (by omega)).grownN hg919 (by omega)), b921, b922, b923, b924, b925, b926, b918, (by omega), (by omega)⟩
              · skip
                refine wp_cond_false (c_false hF887 rfl (decide_eq_false hc888)) ?_
                refine wp_skip ?_
                have b927 : Blk w878 g2 48 (u32Vals h) := ((b823.ext hx873).grownN hg880 (by omega))
                have b928 : Blk w878 g10 48 (u32Vals (List.replicate 8 0)) := ((b824.ext hx873).grownN hg880 (by omega))
                have b929 : Blk w878 g21 62 (u32Vals m) := ((b825.ext hx873).grownN hg880 (by omega))
                have b930 : Blk w878 g125 62 (u32Vals v2) := ((b826.ext hx873).grownN hg880 (by omega))
                have b931 : Blk w878 g143 48 (u32Vals iv) := ((b827.ext hx873).grownN hg880 (by omega))
                have b932 : Blk w878 g761 70 (intVals permI) := ((b828.ext hx873).grownN hg880 (by omega))
                exact ⟨i2 % 4, 4 + (i2 % 4), 8 + (i2 % 4), 12 + (i2 % 4), (((((((((((((((((((((hF887.nil.cons (hF887.get (t := 18) (v := (.pointer (some ⟨g870, 0, none⟩))) rfl)).cons (hF887.get (t := 17) (v := (.int .i64 (i2 % 4 : Nat))) rfl)).cons (hF887.get (t := 83) (v := (.bool (decide (((i2 : Nat) : Int) < (8 : Int))))) rfl)).cons (hF887.get (t := 16) (v := (.int .i64 (i2 : Nat))) rfl)).cons (hF887.get (t := 79) (v := (.bool (decide (((r : Nat) : Int) < (10 : Int))))) rfl)).cons (hF887.get (t := 15) (v := (.int .i64 (r : Nat))) rfl)).cons (hF887.get (t := 14) (v := (.pointer (some ⟨g761, 0, none⟩))) rfl)).cons (hF887.get (t := 72) (v := (.bool last)) rfl)).cons (hF887.get (t := 45) (v := (.bool (decide (((k1 : Nat) : Int) < (8 : Int))))) rfl)).cons (hF887.get (t := 13) (v := (.int .i64 (k1 : Nat))) rfl)).cons (hF887.get (t := 12) (v := (.pointer (some ⟨g143, 0, none⟩))) rfl)).cons (hF887.get (t := 11) (v := (.pointer (some ⟨g125, 0, none⟩))) rfl)).cons (hF887.get (t := 22) (v := (.bool (decide (((k : Nat) : Int) < (64 : Int))))) rfl)).cons (hF887.get (t := 10) (v := (.int .i64 (k : Nat))) rfl)).cons (hF887.get (t := 9) (v := (.pointer (some ⟨g21, 0, none⟩))) rfl)).cons (hF887.get (t := 8) (v := (.pointer (some ⟨g10, 0, none⟩))) rfl)).cons (hF887.get (t := 4) (v := (.pointer (some ⟨g2, 0, none⟩))) rfl)).cons (hF887.get (t := 3) (v := (.bool last)) rfl)).cons (hF887.get (t := 2) (v := (.int .u64 (n.toNat : Nat))) rfl)).cons (hF887.get (t := 1) (v := (.slice A 64 c)) rfl)).cons (hF887.get (t := 0) (v := (.agg (u32Vals h).toArray)) rfl)), ((((Ext.refl w).trans hx820).trans hx873).grownN hg880 (by omega)), b927, b928, b929, b930, b931, b932, b879, (by omega), (by omega)⟩
            · rintro a933 w934 ⟨pa, pb, pc, pd, hF935, hx936, b939, b940, b941, b942, b943, b944, b945, pm937, z938⟩
              clear hF882
              have z946 := b939.lt
              have z947 := b940.lt
              have z948 := b941.lt
              have z949 := b942.lt
              have z950 := b943.lt
              have z951 := b944.lt
              have z952 := b945.lt
              have z953 := permRow_lt (r := r) (by omega) (j := 2 * i2) (by omega); have z954 := permRow_lt (r := r) (by omega) (j := 2 * i2 + 1) (by omega)
              have hx956 : ∃ W, w934.drew = W ∧ Ext w934 W := ⟨_, rfl, (Ext.refl _).drew⟩
              obtain ⟨w955, e957, hx956⟩ := hx956
              have z958 := hx956.size
              refine anyg_start (fun W => Ext w955 W ∧ Blk W g870 72 (intVals [((pa : Nat) : Int), ((pb : Nat) : Int), ((pc : Nat) : Int), ((pd : Nat) : Int)]) ∧ Blk W g125 62 (u32Vals v2) ∧ Blk W g761 70 (intVals permI) ∧ Blk W g21 62 (u32Vals m)) (fun i => i == 48 || i == 50 || i == 52 || i == 54) (fun W => Blk W g870 72 (intVals [((pa : Nat) : Int), ((pb : Nat) : Int), ((pc : Nat) : Int), ((pd : Nat) : Int)]) ∧ Blk W g761 70 (intVals permI) ∧ Blk W g21 62 (u32Vals m)) 55 #[false, false, false, false, false, false, false, false, false, false, false, false, false, false, false, false, false, false, false, false, false, false, false, false, false, false, false, false, false, false, false, false, false, false, false, false, false, false, false, false, false, false, false, false, false, false, false, false, false, false, false, false, false, false, false] rfl rfl rfl ?_
              rw [e957]; clear e957
              refine anyg_pure (i := 0) (v := (.pointer (some ⟨g870, 0 + 0, none⟩))) hF935 (by decide +kernel) (by decide +kernel) rfl rfl rfl rfl (fun _ _ _ _ h => h) rfl (fun W => (rn_indexArr Tryd.underlying72 (by kernel_rfl : (Tryd.prog.info? 3).map (·.size) = some 1) (hF935.get rfl) rfl (by omega : (0 : Int) ≤ 0) (by omega : (0 : Int) < ((4 : Nat) : Int)))) ?_
              intro a959 hF960; clear hF935
              have b962 : Blk w955 g870 72 (intVals [((pa : Nat) : Int), ((pb : Nat) : Int), ((pc : Nat) : Int), ((pd : Nat) : Int)]) := (b945.ext hx956)
              have b963 : Blk w955 g125 62 (u32Vals v2) := (b942.ext hx956)
              have b964 : Blk w955 g761 70 (intVals permI) := (b944.ext hx956)
              have b965 : Blk w955 g21 62 (u32Vals m) := (b941.ext hx956)
              have hS961 : Ext w955 w955 ∧ Blk w955 g870 72 (intVals [((pa : Nat) : Int), ((pb : Nat) : Int), ((pc : Nat) : Int), ((pd : Nat) : Int)]) ∧ Blk w955 g125 62 (u32Vals v2) ∧ Blk w955 g761 70 (intVals permI) ∧ Blk w955 g21 62 (u32Vals m) := ⟨(Ext.refl w955), b962, b963, b964, b965⟩
              refine anyg_val (i := 1) (v := (.int .i64 (pa : Nat))) hF960 (by decide +kernel) (by decide +kernel) rfl rfl rfl rfl (fun _ _ _ _ h => h) rfl hS961 (fun W hW => (rn_load (isAgg_no Tryd.underlying3 rfl) (hF960.get rfl) (blk_intVals hW.2.1 (by omega) (show 0 < 4 from by decide)))) ?_
              intro a966 hF967; clear hF960
              refine anyg_pure (i := 2) (v := (.pointer (some ⟨g870, 0 + 1, none⟩))) hF967 (by decide +kernel) (by decide +kernel) rfl rfl rfl rfl (fun _ _ _ _ h => h) rfl (fun W => (rn_indexArr Tryd.underlying72 (by kernel_rfl : (Tryd.prog.info? 3).map (·.size) = some 1) (hF967.get rfl) rfl (by omega : (0 : Int) ≤ 1) (by omega : (1 : Int) < ((4 : Nat) : Int)))) ?_
              intro a968 hF969; clear hF967
              have hS970 : Blk w955 g870 72 (intVals [((pa : Nat) : Int), ((pb : Nat) : Int), ((pc : Nat) : Int), ((pd : Nat) : Int)]) ∧ Blk w955 g761 70 (intVals permI) ∧ Blk w955 g21 62 (u32Vals m) := ⟨b962, b964, b965⟩
              refine anyg_val2 (i := 3) (v := (.int .i64 (pb : Nat))) hF969 (by decide +kernel) (by decide +kernel) rfl rfl rfl rfl (fun _ _ _ _ h => h) rfl hS970 (fun W hW => (rn_load (isAgg_no Tryd.underlying3 rfl) (hF969.get rfl) (blk_intVals hW.1 (by omega) (show 1 < 4 from by decide)))) ?_
              intro a971 hF972; clear hF969
              refine anyg_pure (i := 4) (v := (.pointer (some ⟨g870, 0 + 2, none⟩))) hF972 (by decide +kernel) (by decide +kernel) rfl rfl rfl rfl (fun _ _ _ _ h => h) rfl (fun W => (rn_indexArr Tryd.underlying72 (by kernel_rfl : (Tryd.prog.info? 3).map (·.size) = some 1) (hF972.get rfl) rfl (by omega : (0 : Int) ≤ 2) (by omega : (2 : Int) < ((4 : Nat) : Int)))) ?_
              intro a973 hF974; clear hF972
              have hS975 : Blk w955 g870 72 (intVals [((pa : Nat) : Int), ((pb : Nat) : Int), ((pc : Nat) : Int), ((pd : Nat) : Int)]) ∧ Blk w955 g761 70 (intVals permI) ∧ Blk w955 g21 62 (u32Vals m) := ⟨b962, b964, b965⟩
              refine anyg_val2 (i := 5) (v := (.int .i64 (pc : Nat))) hF974 (by decide +kernel) (by decide +kernel) rfl rfl rfl rfl (fun _ _ _ _ h => h) rfl hS975 (fun W hW => (rn_load (isAgg_no Tryd.underlying3 rfl) (hF974.get rfl) (blk_intVals hW.1 (by omega) (show 2 < 4 from by decide)))) ?_
              intro a976 hF977; clear hF974
              refine anyg_pure (i := 6) (v := (.pointer (some ⟨g870, 0 + 3, none⟩))) hF977 (by decide +kernel) (by decide +kernel) rfl rfl rfl rfl (fun _ _ _ _ h => h) rfl (fun W => (rn_indexArr Tryd.underlying72 (by kernel_rfl : (Tryd.prog.info? 3).map (·.size) = some 1) (hF977.get rfl) rfl (by omega : (0 : Int) ≤ 3) (by omega : (3 : Int) < ((4 : Nat) : Int)))) ?_
              intro a978 hF979; clear hF977
              have hS980 : Blk w955 g870 72 (intVals [((pa : Nat) : Int), ((pb : Nat) : Int), ((pc : Nat) : Int), ((pd : Nat) : Int)]) ∧ Blk w955 g761 70 (intVals permI) ∧ Blk w955 g21 62 (u32Vals m) := ⟨b962, b964, b965⟩
              refine anyg_val2 (i := 7) (v := (.int .i64 (pd : Nat))) hF979 (by decide +kernel) (by decide +kernel) rfl rfl rfl rfl (fun _ _ _ _ h => h) rfl hS980 (fun W hW => (rn_load (isAgg_no Tryd.underlying3 rfl) (hF979.get rfl) (blk_intVals hW.1 (by omega) (show 3 < 4 from by decide)))) ?_
              intro a981 hF982; clear hF979
              refine anyg_pure (i := 8) (v := (.pointer (some ⟨g870, 0 + 0, none⟩))) hF982 (by decide +kernel) (by decide +kernel) rfl rfl rfl rfl (fun _ _ _ _ h => h) rfl (fun W => (rn_indexArr Tryd.underlying72 (by kernel_rfl : (Tryd.prog.info? 3).map (·.size) = some 1) (hF982.get rfl) rfl (by omega : (0 : Int) ≤ 0) (by omega : (0 : Int) < ((4 : Nat) : Int)))) ?_
              intro a983 hF984; clear hF982
              refine anyg_val (i := 9) (v := (.int .i64 (pa : Nat))) hF984 (by decide +kernel) (by decide +kernel) rfl rfl rfl rfl (fun _ _ _ _ h => h) rfl hS961 (fun W hW => (rn_load (isAgg_no Tryd.underlying3 rfl) (hF984.get rfl) (blk_intVals hW.2.1 (by omega) (show 0 < 4 from by decide)))) ?_
              intro a985 hF986; clear hF984
              refine anyg_pure (i := 10) (v := (.pointer (some ⟨g125, 0 + pa, none⟩))) hF986 (by decide +kernel) (by decide +kernel) rfl rfl rfl rfl (fun _ _ _ _ h => h) rfl (fun W => (rn_indexArr Tryd.underlying62 (by kernel_rfl : (Tryd.prog.info? 47).map (·.size) = some 1) (hF986.get rfl) (hF986.get rfl) (by omega : (0 : Int) ≤ (pa : Nat)) (by omega : ((pa : Nat) : Int) < ((16 : Nat) : Int)))) ?_
              intro a987 hF988; clear hF986
              refine anyg_val (i := 11) (v := (.int .u32 ((v2.getD pa 0).toNat : Nat))) hF988 (by decide +kernel) (by decide +kernel) rfl rfl rfl rfl (fun _ _ _ _ h => h) rfl hS961 (fun W hW => (rn_load (isAgg_no Tryd.underlying47 rfl) (hF988.get rfl) (blk_word hW.2.2.1 (by omega) (by have := (show List.length v2 = _ from hvl2); omega)))) ?_
              intro a989 hF990; clear hF988
              refine anyg_pure (i := 12) (v := (.pointer (some ⟨g870, 0 + 1, none⟩))) hF990 (by decide +kernel) (by decide +kernel) rfl rfl rfl rfl (fun _ _ _ _ h => h) rfl (fun W => (rn_indexArr Tryd.underlying72 (by kernel_rfl : (Tryd.prog.info? 3).map (·.size) = some 1) (hF990.get rfl) rfl (by omega : (0 : Int) ≤ 1) (by omega : (1 : Int) < ((4 : Nat) : Int)))) ?_
              intro a991 hF992; clear hF990
              refine anyg_val (i := 13) (v := (.int .i64 (pb : Nat))) hF992 (by decide +kernel) (by decide +kernel) rfl rfl rfl rfl (fun _ _ _ _ h => h) rfl hS961 (fun W hW => (rn_load (isAgg_no Tryd.underlying3 rfl) (hF992.get rfl) (blk_intVals hW.2.1 (by omega) (show 1 < 4 from by decide)))) ?_
              intro a993 hF994; clear hF992
              refine anyg_pure (i := 14) (v := (.pointer (some ⟨g125, 0 + pb, none⟩))) hF994 (by decide +kernel) (by decide +kernel) rfl rfl rfl rfl (fun _ _ _ _ h => h) rfl (fun W => (rn_indexArr Tryd.underlying62 (by kernel_rfl : (Tryd.prog.info? 47).map (·.size) = some 1) (hF994.get rfl) (hF994.get rfl) (by omega : (0 : Int) ≤ (pb : Nat)) (by omega : ((pb : Nat) : Int) < ((16 : Nat) : Int)))) ?_
              intro a995 hF996; clear hF994
              refine anyg_val (i := 15) (v := (.int .u32 ((v2.getD pb 0).toNat : Nat))) hF996 (by decide +kernel) (by decide +kernel) rfl rfl rfl rfl (fun _ _ _ _ h => h) rfl hS961 (fun W hW => (rn_load (isAgg_no Tryd.underlying47 rfl) (hF996.get rfl) (blk_word hW.2.2.1 (by omega) (by have := (show List.length v2 = _ from hvl2); omega)))) ?_
              intro a997 hF998; clear hF996
              refine anyg_pure (i := 16) (v := (.pointer (some ⟨g870, 0 + 2, none⟩))) hF998 (by decide +kernel) (by decide +kernel) rfl rfl rfl rfl (fun _ _ _ _ h => h) rfl (fun W => (rn_indexArr Tryd.underlying72 (by kernel_rfl : (Tryd.prog.info? 3).map (·.size) = some 1) (hF998.get rfl) rfl (by omega : (0 : Int) ≤ 2) (by omega : (2 : Int) < ((4 : Nat) : Int)))) ?_
              intro a999 hF1000; clear hF998
              refine anyg_val (i := 17) (v := (.int .i64 (pc : Nat))) hF1000 (by decide +kernel) (by decide +kernel) rfl rfl rfl rfl (fun _ _ _ _ h => h) rfl hS961 (fun W hW => (rn_load (isAgg_no Tryd.underlying3 rfl) (hF1000.get rfl) (blk_intVals hW.2.1 (by omega) (show 2 < 4 from by decide)))) ?_
              intro a1001 hF1002; clear hF1000
              refine anyg_pure (i := 18) (v := (.pointer (some ⟨g125, 0 + pc, none⟩))) hF1002 (by decide +kernel) (by decide +kernel) rfl rfl rfl rfl (fun _ _ _ _ h => h) rfl (fun W => (rn_indexArr Tryd.underlying62 (by kernel_rfl : (Tryd.prog.info? 47).map (·.size) = some 1) (hF1002.get rfl) (hF1002.get rfl) (by omega : (0 : Int) ≤ (pc : Nat)) (by omega : ((pc : Nat) : Int) < ((16 : Nat) : Int)))) ?_
              intro a1003 hF1004; clear hF1002
              refine anyg_val (i := 19) (v := (.int .u32 ((v2.getD pc 0).toNat : Nat))) hF1004 (by decide +kernel) (by decide +kernel) rfl rfl rfl rfl (fun _ _ _ _ h => h) rfl hS961 (fun W hW => (rn_load (isAgg_no Tryd.underlying47 rfl) (hF1004.get rfl) (blk_word hW.2.2.1 (by omega) (by have := (show List.length v2 = _ from hvl2); omega)))) ?_
              intro a1005 hF1006; clear hF1004
              refine anyg_pure (i := 20) (v := (.pointer (some ⟨g870, 0 + 3, none⟩))) hF1006 (by decide +kernel) (by decide +kernel) rfl rfl rfl rfl (fun _ _ _ _ h => h) rfl (fun W => (rn_indexArr Tryd.underlying72 (by kernel_rfl : (Tryd.prog.info? 3).map (·.size) = some 1) (hF1006.get rfl) rfl (by omega : (0 : Int) ≤ 3) (by omega : (3 : Int) < ((4 : Nat) : Int)))) ?_
              intro a1007 hF1008; clear hF1006
              refine anyg_val (i := 21) (v := (.int .i64 (pd : Nat))) hF1008 (by decide +kernel) (by decide +kernel) rfl rfl rfl rfl (fun _ _ _ _ h => h) rfl hS961 (fun W hW => (rn_load (isAgg_no Tryd.underlying3 rfl) (hF1008.get rfl) (blk_intVals hW.2.1 (by omega) (show 3 < 4 from by decide)))) ?_
              intro a1009 hF1010; clear hF1008
              refine anyg_pure (i := 22) (v := (.pointer (some ⟨g125, 0 + pd, none⟩))) hF1010 (by decide +kernel) (by decide +kernel) rfl rfl rfl rfl (fun _ _ _ _ h => h) rfl (fun W => (rn_indexArr Tryd.underlying62 (by kernel_rfl : (Tryd.prog.info? 47).map (·.size) = some 1) (hF1010.get rfl) (hF1010.get rfl) (by omega : (0 : Int) ≤ (pd : Nat)) (by omega : ((pd : Nat) : Int) < ((16 : Nat) : Int)))) ?_
              intro a1011 hF1012; clear hF1010
              refine anyg_val (i := 23) (v := (.int .u32 ((v2.getD pd 0).toNat : Nat))) hF1012 (by decide +kernel) (by decide +kernel) rfl rfl rfl rfl (fun _ _ _ _ h => h) rfl hS961 (fun W hW => (rn_load (isAgg_no Tryd.underlying47 rfl) (hF1012.get rfl) (blk_word hW.2.2.1 (by omega) (by have := (show List.length v2 = _ from hvl2); omega)))) ?_
              intro a1013 hF1014; clear hF1012
              refine anyg_pure (i := 24) (v := (.int .i64 (r : Nat))) hF1014 (by decide +kernel) (by decide +kernel) rfl rfl rfl rfl (fun _ _ _ _ h => h) rfl (fun W => (rn_move (hF1014.get rfl))) ?_
              intro a1015 hF1016; clear hF1014
              refine anyg_pure (i := 25) (v := (.int .i64 (i2 : Nat))) hF1016 (by decide +kernel) (by decide +kernel) rfl rfl rfl rfl (fun _ _ _ _ h => h) rfl (fun W => (rn_move (hF1016.get rfl))) ?_
              intro a1017 hF1018; clear hF1016
              refine anyg_pure (i := 26) (v := (.int .i64 (2 * i2 : Nat))) hF1018 (by decide +kernel) (by decide +kernel) rfl rfl rfl rfl (fun _ _ _ _ h => h) rfl (fun W => (rn_mulN (a := 2) (b := i2) rfl (hF1018.get rfl) (by omega))) ?_
              intro a1019 hF1020; clear hF1018
              refine anyg_pure (i := 27) (v := (.pointer (some ⟨g761, 0 + r * 16, none⟩))) hF1020 (by decide +kernel) (by decide +kernel) rfl rfl rfl rfl (fun _ _ _ _ h => h) rfl (fun W => (rn_indexArrE Tryd.underlying70 (by kernel_rfl : (Tryd.prog.info? 69).map (·.size) = some 16) (hF1020.get rfl) (hF1020.get rfl) (by omega : (0 : Int) ≤ (r : Nat)) (by omega : ((r : Nat) : Int) < ((10 : Nat) : Int)) (by omega))) ?_
              intro a1021 hF1022; clear hF1020
              refine anyg_pure (i := 28) (v := (.pointer (some ⟨g761, 0 + r * 16 + (2 * i2), none⟩))) hF1022 (by decide +kernel) (by decide +kernel) rfl rfl rfl rfl (fun _ _ _ _ h => h) rfl (fun W => (rn_indexArr Tryd.underlying69 (by kernel_rfl : (Tryd.prog.info? 3).map (·.size) = some 1) (hF1022.get rfl) (hF1022.get rfl) (by omega : (0 : Int) ≤ (2 * i2 : Nat)) (by omega : ((2 * i2 : Nat) : Int) < ((16 : Nat) : Int)))) ?_
              intro a1023 hF1024; clear hF1022
              refine anyg_val (i := 29) (v := (.int .i64 ((permRow r).getD (2 * i2) 0 : Nat))) hF1024 (by decide +kernel) (by decide +kernel) rfl rfl rfl rfl (fun _ _ _ _ h => h) rfl hS961 (fun W hW => (rn_load (isAgg_no Tryd.underlying3 rfl) (hF1024.get rfl) (blk_perm hW.2.2.2.1 (r := r) (j := (2 * i2)) (by omega) (by omega) (by omega)))) ?_
              intro a1025 hF1026; clear hF1024
              refine anyg_pure (i := 30) (v := (.pointer (some ⟨g21, 0 + ((permRow r).getD (2 * i2) 0), none⟩))) hF1026 (by decide +kernel) (by decide +kernel) rfl rfl rfl rfl (fun _ _ _ _ h => h) rfl (fun W => (rn_indexArr Tryd.underlying62 (by kernel_rfl : (Tryd.prog.info? 47).map (·.size) = some 1) (hF1026.get rfl) (hF1026.get rfl) (by omega : (0 : Int) ≤ ((permRow r).getD (2 * i2) 0 : Nat)) (by omega : (((permRow r).getD (2 * i2) 0 : Nat) : Int) < ((16 : Nat) : Int)))) ?_
              intro a1027 hF1028; clear hF1026
              refine anyg_val (i := 31) (v := (.int .u32 ((m.getD ((permRow r).getD (2 * i2) 0) 0).toNat : Nat))) hF1028 (by decide +kernel) (by decide +kernel) rfl rfl rfl rfl (fun _ _ _ _ h => h) rfl hS961 (fun W hW => (rn_load (isAgg_no Tryd.underlying47 rfl) (hF1028.get rfl) (blk_word hW.2.2.2.2 (by omega) (by have := (show List.length m = _ from hm); omega)))) ?_
              intro a1029 hF1030; clear hF1028
              refine anyg_pure (i := 32) (v := (.int .i64 (r : Nat))) hF1030 (by decide +kernel) (by decide +kernel) rfl rfl rfl rfl (fun _ _ _ _ h => h) rfl (fun W => (rn_move (hF1030.get rfl))) ?_
              intro a1031 hF1032; clear hF1030
              refine anyg_pure (i := 33) (v := (.int .i64 (i2 : Nat))) hF1032 (by decide +kernel) (by decide +kernel) rfl rfl rfl rfl (fun _ _ _ _ h => h) rfl (fun W => (rn_move (hF1032.get rfl))) ?_
              intro a1033 hF1034; clear hF1032
              refine anyg_pure (i := 34) (v := (.int .i64 (2 * i2 : Nat))) hF1034 (by decide +kernel) (by decide +kernel) rfl rfl rfl rfl (fun _ _ _ _ h => h) rfl (fun W => (rn_mulN (a := 2) (b := i2) rfl (hF1034.get rfl) (by omega))) ?_
              intro a1035 hF1036; clear hF1034
              refine anyg_pure (i := 35) (v := (.int .i64 ((2 * i2) + 1 : Nat))) hF1036 (by decide +kernel) (by decide +kernel) rfl rfl rfl rfl (fun _ _ _ _ h => h) rfl (fun W => (rn_addN (a := 2 * i2) (b := 1) (hF1036.get rfl) rfl (by omega))) ?_
              intro a1037 hF1038; clear hF1036
              refine anyg_pure (i := 36) (v := (.pointer (some ⟨g761, 0 + r * 16, none⟩))) hF1038 (by decide +kernel) (by decide +kernel) rfl rfl rfl rfl (fun _ _ _ _ h => h) rfl (fun W => (rn_indexArrE Tryd.underlying70 (by kernel_rfl : (Tryd.prog.info? 69).map (·.size) = some 16) (hF1038.get rfl) (hF1038.get rfl) (by omega : (0 : Int) ≤ (r : Nat)) (by omega : ((r : Nat) : Int) < ((10 : Nat) : Int)) (by omega))) ?_
              intro a1039 hF1040; clear hF1038
              refine anyg_pure (i := 37) (v := (.pointer (some ⟨g761, 0 + r * 16 + ((2 * i2) + 1), none⟩))) hF1040 (by decide +kernel) (by decide +kernel) rfl rfl rfl rfl (fun _ _ _ _ h => h) rfl (fun W => (rn_indexArr Tryd.underlying69 (by kernel_rfl : (Tryd.prog.info? 3).map (·.size) = some 1) (hF1040.get rfl) (hF1040.get rfl) (by omega : (0 : Int) ≤ ((2 * i2) + 1 : Nat)) (by omega : (((2 * i2) + 1 : Nat) : Int) < ((16 : Nat) : Int)))) ?_
              intro a1041 hF1042; clear hF1040
              refine anyg_val (i := 38) (v := (.int .i64 ((permRow r).getD ((2 * i2) + 1) 0 : Nat))) hF1042 (by decide +kernel) (by decide +kernel) rfl rfl rfl rfl (fun _ _ _ _ h => h) rfl hS961 (fun W hW => (rn_load (isAgg_no Tryd.underlying3 rfl) (hF1042.get rfl) (blk_perm hW.2.2.2.1 (r := r) (j := ((2 * i2) + 1)) (by omega) (by omega) (by omega)))) ?_
              intro a1043 hF1044; clear hF1042
              refine anyg_pure (i := 39) (v := (.pointer (some ⟨g21, 0 + ((permRow r).getD ((2 * i2) + 1) 0), none⟩))) hF1044 (by decide +kernel) (by decide +kernel) rfl rfl rfl rfl (fun _ _ _ _ h => h) rfl (fun W => (rn_indexArr Tryd.underlying62 (by kernel_rfl : (Tryd.prog.info? 47).map (·.size) = some 1) (hF1044.get rfl) (hF1044.get rfl) (by omega : (0 : Int) ≤ ((permRow r).getD ((2 * i2) + 1) 0 : Nat)) (by omega : (((permRow r).getD ((2 * i2) + 1) 0 : Nat) : Int) < ((16 : Nat) : Int)))) ?_
              intro a1045 hF1046; clear hF1044
              refine anyg_val (i := 40) (v := (.int .u32 ((m.getD ((permRow r).getD ((2 * i2) + 1) 0) 0).toNat : Nat))) hF1046 (by decide +kernel) (by decide +kernel) rfl rfl rfl rfl (fun _ _ _ _ h => h) rfl hS961 (fun W hW => (rn_load (isAgg_no Tryd.underlying47 rfl) (hF1046.get rfl) (blk_word hW.2.2.2.2 (by omega) (by have := (show List.length m = _ from hm); omega)))) ?_
              intro a1047 hF1048; clear hF1046
              refine anyg_one (i := 41) (by decide +kernel) rfl ?_
              refine o_call hF1048 rfl rfl rfl rfl (rn_call (args6 (hF1048.get rfl) (hF1048.get rfl) (hF1048.get rfl) (hF1048.get rfl) (hF1048.get rfl) (hF1048.get rfl)) rfl (by kernel_rfl)) (rmix_any (v2.getD pa 0) (v2.getD pb 0) (v2.getD pc 0) (v2.getD pd 0) (m.getD ((permRow r).getD (2 * i2) 0) 0) (m.getD ((permRow r).getD ((2 * i2) + 1) 0) 0) _) ?_
              rintro _ w1049 ⟨rfl, hx1050⟩
              refine ⟨_, rfl, ?_⟩; intro a1051 hF1052; clear hF1048; have z1053 := hx1050.size
              have b1054 : Blk w1049 g870 72 (intVals [((pa : Nat) : Int), ((pb : Nat) : Int), ((pc : Nat) : Int), ((pd : Nat) : Int)]) := (b962.ext hx1050)
              have b1055 : Blk w1049 g125 62 (u32Vals v2) := (b963.ext hx1050)
              have b1056 : Blk w1049 g761 70 (intVals permI) := (b964.ext hx1050)
              have b1057 : Blk w1049 g21 62 (u32Vals m) := (b965.ext hx1050)
              refine ⟨⟨fun _ _ => ⟨((Ext.refl w955).trans hx1050), b1054, b1055, b1056, b1057⟩, fun _ => ⟨b1054, b1056, b1057⟩⟩, ?_⟩
              refine anyg_pure (i := 42) (v := (.tuple #[(.int .u32 (((mix4 (v2.getD pa 0) (v2.getD pb 0) (v2.getD pc 0) (v2.getD pd 0) (m.getD ((permRow r).getD (2 * i2) 0) 0) (m.getD ((permRow r).getD ((2 * i2) + 1) 0) 0)).a).toNat : Nat)), (.int .u32 (((mix4 (v2.getD pa 0) (v2.getD pb 0) (v2.getD pc 0) (v2.getD pd 0) (m.getD ((permRow r).getD (2 * i2) 0) 0) (m.getD ((permRow r).getD ((2 * i2) + 1) 0) 0)).b).toNat : Nat)), (.int .u32 (((mix4 (v2.getD pa 0) (v2.getD pb 0) (v2.getD pc 0) (v2.getD pd 0) (m.getD ((permRow r).getD (2 * i2) 0) 0) (m.getD ((permRow r).getD ((2 * i2) + 1) 0) 0)).c).toNat : Nat)), (.int .u32 (((mix4 (v2.getD pa 0) (v2.getD pb 0) (v2.getD pc 0) (v2.getD pd 0) (m.getD ((permRow r).getD (2 * i2) 0) 0) (m.getD ((permRow r).getD ((2 * i2) + 1) 0) 0)).d).toNat : Nat))])) hF1052 (by decide +kernel) (by decide +kernel) rfl rfl rfl rfl (fun _ _ _ _ h => h) rfl (fun W => (rn_move (hF1052.get rfl))) ?_
              intro a1058 hF1059; clear hF1052
              refine anyg_pure (i := 43) (v := (.int .u32 (((mix4 (v2.getD pa 0) (v2.getD pb 0) (v2.getD pc 0) (v2.getD pd 0) (m.getD ((permRow r).getD (2 * i2) 0) 0) (m.getD ((permRow r).getD ((2 * i2) + 1) 0) 0)).a).toNat : Nat))) hF1059 (by decide +kernel) (by decide +kernel) rfl rfl rfl rfl (fun _ _ _ _ h => h) rfl (fun W => (rn_extract (hF1059.get rfl) rfl)) ?_
              intro a1060 hF1061; clear hF1059
              refine anyg_pure (i := 44) (v := (.int .u32 (((mix4 (v2.getD pa 0) (v2.getD pb 0) (v2.getD pc 0) (v2.getD pd 0) (m.getD ((permRow r).getD (2 * i2) 0) 0) (m.getD ((permRow r).getD ((2 * i2) + 1) 0) 0)).b).toNat : Nat))) hF1061 (by decide +kernel) (by decide +kernel) rfl rfl rfl rfl (fun _ _ _ _ h => h) rfl (fun W => (rn_extract (hF1061.get rfl) rfl)) ?_
              intro a1062 hF1063; clear hF1061
              refine anyg_pure (i := 45) (v := (.int .u32 (((mix4 (v2.getD pa 0) (v2.getD pb 0) (v2.getD pc 0) (v2.getD pd 0) (m.getD ((permRow r).getD (2 * i2) 0) 0) (m.getD ((permRow r).getD ((2 * i2) + 1) 0) 0)).c).toNat : Nat))) hF1063 (by decide +kernel) (by decide +kernel) rfl rfl rfl rfl (fun _ _ _ _ h => h) rfl (fun W => (rn_extract (hF1063.get rfl) rfl)) ?_
              intro a1064 hF1065; clear hF1063
              refine anyg_pure (i := 46) (v := (.int .u32 (((mix4 (v2.getD pa 0) (v2.getD pb 0) (v2.getD pc 0) (v2.getD pd 0) (m.getD ((permRow r).getD (2 * i2) 0) 0) (m.getD ((permRow r).getD ((2 * i2) + 1) 0) 0)).d).toNat : Nat))) hF1065 (by decide +kernel) (by decide +kernel) rfl rfl rfl rfl (fun _ _ _ _ h => h) rfl (fun W => (rn_extract (hF1065.get rfl) rfl)) ?_
              intro a1066 hF1067; clear hF1065
              refine anyg_pure (i := 47) (v := (.pointer (some ⟨g125, 0 + pa, none⟩))) hF1067 (by decide +kernel) (by decide +kernel) rfl rfl rfl rfl (fun _ _ _ _ h => h) rfl (fun W => (rn_indexArr Tryd.underlying62 (by kernel_rfl : (Tryd.prog.info? 47).map (·.size) = some 1) (hF1067.get rfl) (hF1067.get rfl) (by omega : (0 : Int) ≤ (pa : Nat)) (by omega : ((pa : Nat) : Int) < ((16 : Nat) : Int)))) ?_
              intro a1068 hF1069; clear hF1067
              refine anyg_one (i := 48) (by decide +kernel) rfl ?_
              refine o_store1 (new := (u32Vals (v2.set pa ((mix4 (v2.getD pa 0) (v2.getD pb 0) (v2.getD pc 0) (v2.getD pd 0) (m.getD ((permRow r).getD (2 * i2) 0) 0) (m.getD ((permRow r).getD ((2 * i2) + 1) 0) 0)).a)))) hF1069 rfl rfl rfl rfl (hF1069.get rfl) (hF1069.get rfl) b1055 (by kernel_rfl : (Tryd.prog.info? 47).map (·.size) = some 1) (by rw [u32Vals_len hvl2]; omega) rfl (u32Vals_set (by omega)) ?_
              intro w1070 b1071 hg1072; have z1073 := hg1072.size
              have b1074 : Blk w1070 g870 72 (intVals [((pa : Nat) : Int), ((pb : Nat) : Int), ((pc : Nat) : Int), ((pd : Nat) : Int)]) := (b1054.grownN hg1072 (by omega))
              have b1075 : Blk w1070 g761 70 (intVals permI) := (b1056.grownN hg1072 (by omega))
              have b1076 : Blk w1070 g21 62 (u32Vals m) := (b1057.grownN hg1072 (by omega))
              refine ⟨⟨fun h => absurd h (by decide), fun _ => ⟨b1074, b1075, b1076⟩⟩, ?_⟩
              refine anyg_pure (i := 49) (v := (.pointer (some ⟨g125, 0 + pb, none⟩))) hF1069 (by decide +kernel) (by decide +kernel) rfl rfl rfl rfl (fun _ _ _ _ h => h) rfl (fun W => (rn_indexArr Tryd.underlying62 (by kernel_rfl : (Tryd.prog.info? 47).map (·.size) = some 1) (hF1069.get rfl) (hF1069.get rfl) (by omega : (0 : Int) ≤ (pb : Nat)) (by omega : ((pb : Nat) : Int) < ((16 : Nat) : Int)))) ?_
              intro a1077 hF1078; clear hF1069
              refine anyg_one (i := 50) (by decide +kernel) rfl ?_
              refine o_store1 (new := (u32Vals ((v2.set pa ((mix4 (v2.getD pa 0) (v2.getD pb 0) (v2.getD pc 0) (v2.getD pd 0) (m.getD ((permRow r).getD (2 * i2) 0) 0) (m.getD ((permRow r).getD ((2 * i2) + 1) 0) 0)).a)).set pb ((mix4 (v2.getD pa 0) (v2.getD pb 0) (v2.getD pc 0) (v2.getD pd 0) (m.getD ((permRow r).getD (2 * i2) 0) 0) (m.getD ((permRow r).getD ((2 * i2) + 1) 0) 0)).b)))) hF1078 rfl rfl rfl rfl (hF1078.get rfl) (hF1078.get rfl) b1071 (by kernel_rfl : (Tryd.prog.info? 47).map (·.size) = some 1) (by rw [u32Vals_len (show List.length (v2.set pa ((mix4 (v2.getD pa 0) (v2.getD pb 0) (v2.getD pc 0) (v2.getD pd 0) (m.getD ((permRow r).getD (2 * i2) 0) 0) (m.getD ((permRow r).getD ((2 * i2) + 1) 0) 0)).a)) = _ from List.length_set.trans hvl2)]; omega) rfl (u32Vals_set (by omega)) ?_
              intro w1079 b1080 hg1081; have z1082 := hg1081.size
              have b1083 : Blk w1079 g870 72 (intVals [((pa : Nat) : Int), ((pb : Nat) : Int), ((pc : Nat) : Int), ((pd : Nat) : Int)]) := (b1074.grownN hg1081 (by omega))
              have b1084 : Blk w1079 g761 70 (intVals permI) := (b1075.grownN hg1081 (by omega))
              have b1085 : Blk w1079 g21 62 (u32Vals m) := (b1076.grownN hg1081 (by omega))
              refine ⟨⟨fun h => absurd h (by decide), fun _ => ⟨b1083, b1084, b1085⟩⟩, ?_⟩
              refine anyg_pure (i := 51) (v := (.pointer (some ⟨g125, 0 + pc, none⟩))) hF1078 (by decide +kernel) (by decide +kernel) rfl rfl rfl rfl (fun _ _ _ _ h => h) rfl (fun W => (rn_indexArr Tryd.underlying62 (by kernel_rfl : (Tryd.prog.info? 47).map (·.size) = some 1) (hF1078.get rfl) (hF1078.get rfl) (by omega : (0 : Int) ≤ (pc : Nat)) (by omega : ((pc : Nat) : Int) < ((16 : Nat) : Int)))) ?_
              intro a1086 hF1087; clear hF1078
              refine anyg_one (i := 52) (by decide +kernel) rfl ?_
              refine o_store1 (new := (u32Vals (((v2.set pa ((mix4 (v2.getD pa 0) (v2.getD pb 0) (v2.getD pc 0) (v2.getD pd 0) (m.getD ((permRow r).getD (2 * i2) 0) 0) (m.getD ((permRow r).getD ((2 * i2) + 1) 0) 0)).a)).set pb ((mix4 (v2.getD pa 0) (v2.getD pb 0) (v2.getD pc 0) (v2.getD pd 0) (m.getD ((permRow r).getD (2 * i2) 0) 0) (m.getD ((permRow r).getD ((2 * i2) + 1) 0) 0)).b)).set pc ((mix4 (v2.getD pa 0) (v2.getD pb 0) (v2.getD pc 0) (v2.getD pd 0) (m.getD ((permRow r).getD (2 * i2) 0) 0) (m.getD ((permRow r).getD ((2 * i2) + 1) 0) 0)).c)))) hF1087 rfl rfl rfl rfl (hF1087.get rfl) (hF1087.get rfl) b1080 (by kernel_rfl : (Tryd.prog.info? 47).map (·.size) = some 1) (by rw [u32Vals_len (show List.length ((v2.set pa ((mix4 (v2.getD pa 0) (v2.getD pb 0) (v2.getD pc 0) (v2.getD pd 0) (m.getD ((permRow r).getD (2 * i2) 0) 0) (m.getD ((permRow r).getD ((2 * i2) + 1) 0) 0)).a)).set pb ((mix4 (v2.getD pa 0) (v2.getD pb 0) (v2.getD pc 0) (v2.getD pd 0) (m.getD ((permRow r).getD (2 * i2) 0) 0) (m.getD ((permRow r).getD ((2 * i2) + 1) 0) 0)).b)) = _ from List.length_set.trans (show List.length (v2.set pa ((mix4 (v2.getD pa 0) (v2.getD pb 0) (v2.getD pc 0) (v2.getD pd 0) (m.getD ((permRow r).getD (2 * i2) 0) 0) (m.getD ((permRow r).getD ((2 * i2) + 1) 0) 0)).a)) = _ from List.length_set.trans hvl2))]; omega) rfl (u32Vals_set (by omega)) ?_
              intro w1088 b1089 hg1090; have z1091 := hg1090.size
              have b1092 : Blk w1088 g870 72 (intVals [((pa : Nat) : Int), ((pb : Nat) : Int), ((pc : Nat) : Int), ((pd : Nat) : Int)]) := (b1083.grownN hg1090 (by omega))
              have b1093 : Blk w1088 g761 70 (intVals permI) := (b1084.grownN hg1090 (by omega))
              have b1094 : Blk w1088 g21 62 (u32Vals m) := (b1085.grownN hg1090 (by omega))
              refine ⟨⟨fun h => absurd h (by decide), fun _ => ⟨b1092, b1093, b1094⟩⟩, ?_⟩
              refine anyg_pure (i := 53) (v := (.pointer (some ⟨g125, 0 + pd, none⟩))) hF1087 (by decide +kernel) (by decide +kernel) rfl rfl rfl rfl (fun _ _ _ _ h => h) rfl (fun W => (rn_indexArr Tryd.underlying62 (by kernel_rfl : (Tryd.prog.info? 47).map (·.size) = some 1) (hF1087.get rfl) (hF1087.get rfl) (by omega : (0 : Int) ≤ (pd : Nat)) (by omega : ((pd : Nat) : Int) < ((16 : Nat) : Int)))) ?_
              intro a1095 hF1096; clear hF1087
              refine anyg_one (i := 54) (by decide +kernel) rfl ?_
              refine o_store1 (new := (u32Vals ((((v2.set pa ((mix4 (v2.getD pa 0) (v2.getD pb 0) (v2.getD pc 0) (v2.getD pd 0) (m.getD ((permRow r).getD (2 * i2) 0) 0) (m.getD ((permRow r).getD ((2 * i2) + 1) 0) 0)).a)).set pb ((mix4 (v2.getD pa 0) (v2.getD pb 0) (v2.getD pc 0) (v2.getD pd 0) (m.getD ((permRow r).getD (2 * i2) 0) 0) (m.getD ((permRow r).getD ((2 * i2) + 1) 0) 0)).b)).set pc ((mix4 (v2.getD pa 0) (v2.getD pb 0) (v2.getD pc 0) (v2.getD pd 0) (m.getD ((permRow r).getD (2 * i2) 0) 0) (m.getD ((permRow r).getD ((2 * i2) + 1) 0) 0)).c)).set pd ((mix4 (v2.getD pa 0) (v2.getD pb 0) (v2.getD pc 0) (v2.getD pd 0) (m.getD ((permRow r).getD (2 * i2) 0) 0) (m.getD ((permRow r).getD ((2 * i2) + 1) 0) 0)).d)))) hF1096 rfl rfl rfl rfl (hF1096.get rfl) (hF1096.get rfl) b1089 (by kernel_rfl : (Tryd.prog.info? 47).map (·.size) = some 1) (by rw [u32Vals_len (show List.length (((v2.set pa ((mix4 (v2.getD pa 0) (v2.getD pb 0) (v2.getD pc 0) (v2.getD pd 0) (m.getD ((permRow r).getD (2 * i2) 0) 0) (m.getD ((permRow r).getD ((2 * i2) + 1) 0) 0)).a)).set pb ((mix4 (v2.getD pa 0) (v2.getD pb 0) (v2.getD pc 0) (v2.getD pd 0) (m.getD ((permRow r).getD (2 * i2) 0) 0) (m.getD ((permRow r).getD ((2 * i2) + 1) 0) 0)).b)).set pc ((mix4 (v2.getD pa 0) (v2.getD pb 0) (v2.getD pc 0) (v2.getD pd 0) (m.getD ((permRow r).getD (2 * i2) 0) 0) (m.getD ((permRow r).getD ((2 * i2) + 1) 0) 0)).c)) = _ from List.length_set.trans (show List.length ((v2.set pa ((mix4 (v2.getD pa 0) (v2.getD pb 0) (v2.getD pc 0) (v2.getD pd 0) (m.getD ((permRow r).getD (2 * i2) 0) 0) (m.getD ((permRow r).getD ((2 * i2) + 1) 0) 0)).a)).set pb ((mix4 (v2.getD pa 0) (v2.getD pb 0) (v2.getD pc 0) (v2.getD pd 0) (m.getD ((permRow r).getD (2 * i2) 0) 0) (m.getD ((permRow r).getD ((2 * i2) + 1) 0) 0)).b)) = _ from List.length_set.trans (show List.length (v2.set pa ((mix4 (v2.getD pa 0) (v2.getD pb 0) (v2.getD pc 0) (v2.getD pd 0) (m.getD ((permRow r).getD (2 * i2) 0) 0) (m.getD ((permRow r).getD ((2 * i2) + 1) 0) 0)).a)) = _ from List.length_set.trans hvl2)))]; omega) rfl (u32Vals_set (by omega)) ?_
              intro w1097 b1098 hg1099; have z1100 := hg1099.size
              have b1101 : Blk w1097 g870 72 (intVals [((pa : Nat) : Int), ((pb : Nat) : Int), ((pc : Nat) : Int), ((pd : Nat) : Int)]) := (b1092.grownN hg1099 (by omega))
              have b1102 : Blk w1097 g761 70 (intVals permI) := (b1093.grownN hg1099 (by omega))
              have b1103 : Blk w1097 g21 62 (u32Vals m) := (b1094.grownN hg1099 (by omega))
              refine ⟨⟨fun h => absurd h (by decide), fun _ => ⟨b1101, b1102, b1103⟩⟩, ?_⟩
              refine anyg_nil (by decide +kernel) ?_
              refine hK845 _ _ ?_
              clear hK845
              have hF1104 := (((((((((((((((((((((hF1096.nil.cons (hF1096.get (t := 18) (v := (.pointer (some ⟨g870, 0, none⟩))) rfl)).cons (hF1096.get (t := 17) (v := (.int .i64 (i2 % 4 : Nat))) rfl)).cons (hF1096.get (t := 83) (v := (.bool (decide (((i2 : Nat) : Int) < (8 : Int))))) rfl)).cons (hF1096.get (t := 16) (v := (.int .i64 (i2 : Nat))) rfl)).cons (hF1096.get (t := 79) (v := (.bool (decide (((r : Nat) : Int) < (10 : Int))))) rfl)).cons (hF1096.get (t := 15) (v := (.int .i64 (r : Nat))) rfl)).cons (hF1096.get (t := 14) (v := (.pointer (some ⟨g761, 0, none⟩))) rfl)).cons (hF1096.get (t := 72) (v := (.bool last)) rfl)).cons (hF1096.get (t := 45) (v := (.bool (decide (((k1 : Nat) : Int) < (8 : Int))))) rfl)).cons (hF1096.get (t := 13) (v := (.int .i64 (k1 : Nat))) rfl)).cons (hF1096.get (t := 12) (v := (.pointer (some ⟨g143, 0, none⟩))) rfl)).cons (hF1096.get (t := 11) (v := (.pointer (some ⟨g125, 0, none⟩))) rfl)).cons (hF1096.get (t := 22) (v := (.bool (decide (((k : Nat) : Int) < (64 : Int))))) rfl)).cons (hF1096.get (t := 10) (v := (.int .i64 (k : Nat))) rfl)).cons (hF1096.get (t := 9) (v := (.pointer (some ⟨g21, 0, none⟩))) rfl)).cons (hF1096.get (t := 8) (v := (.pointer (some ⟨g10, 0, none⟩))) rfl)).cons (hF1096.get (t := 4) (v := (.pointer (some ⟨g2, 0, none⟩))) rfl)).cons (hF1096.get (t := 3) (v := (.bool last)) rfl)).cons (hF1096.get (t := 2) (v := (.int .u64 (n.toNat : Nat))) rfl)).cons (hF1096.get (t := 1) (v := (.slice A 64 c)) rfl)).cons (hF1096.get (t := 0) (v := (.agg (u32Vals h).toArray)) rfl))
              clear hF1096
              refine wp_region_lit ?_
              refine wpl_op (i := 0) rfl (o_val (v := (.int .i64 (i2 : Nat))) hF1104 rfl rfl rfl rfl (rn_move (hF1104.get rfl)) ?_)
              intro a1105 hF1106; clear hF1104
              refine wpl_op (i := 1) rfl (o_val (v := (.int .i64 (i2 + 1 : Nat))) hF1106 rfl rfl rfl rfl (rn_addN (a := i2) (b := 1) (hF1106.get rfl) rfl (by omega)) ?_)
              intro a1107 hF1108; clear hF1106
              refine wpl_op (i := 2) rfl (o_val (v := (.int .i64 (i2 + 1 : Nat))) hF1108 rfl rfl rfl rfl (rn_assign (hF1108.get rfl)) ?_)
              intro a1109 hF1110; clear hF1108
              refine wpList_nil ?_
              obtain ⟨v1111, e1112⟩ : ∃ z, z = (((v2.set pa ((mix4 (v2.getD pa 0) (v2.getD pb 0) (v2.getD pc 0) (v2.getD pd 0) (m.getD ((permRow r).getD (2 * i2) 0) 0) (m.getD ((permRow r).getD ((2 * i2) + 1) 0) 0)).a)).set pb ((mix4 (v2.getD pa 0) (v2.getD pb 0) (v2.getD pc 0) (v2.getD pd 0) (m.getD ((permRow r).getD (2 * i2) 0) 0) (m.getD ((permRow r).getD ((2 * i2) + 1) 0) 0)).b)).set pc ((mix4 (v2.getD pa 0) (v2.getD pb 0) (v2.getD pc 0) (v2.getD pd 0) (m.getD ((permRow r).getD (2 * i2) 0) 0) (m.getD ((permRow r).getD ((2 * i2) + 1) 0) 0)).c)).set pd ((mix4 (v2.getD pa 0) (v2.getD pb 0) (v2.getD pc 0) (v2.getD pd 0) (m.getD ((permRow r).getD (2 * i2) 0) 0) (m.getD ((permRow r).getD ((2 * i2) + 1) 0) 0)).d) := ⟨_, rfl⟩
              have hl1113 : v1111.length = 16 := (congrArg List.length e1112).trans (show List.length ((((v2.set pa ((mix4 (v2.getD pa 0) (v2.getD pb 0) (v2.getD pc 0) (v2.getD pd 0) (m.getD ((permRow r).getD (2 * i2) 0) 0) (m.getD ((permRow r).getD ((2 * i2) + 1) 0) 0)).a)).set pb ((mix4 (v2.getD pa 0) (v2.getD pb 0) (v2.getD pc 0) (v2.getD pd 0) (m.getD ((permRow r).getD (2 * i2) 0) 0) (m.getD ((permRow r).getD ((2 * i2) + 1) 0) 0)).b)).set pc ((mix4 (v2.getD pa 0) (v2.getD pb 0) (v2.getD pc 0) (v2.getD pd 0) (m.getD ((permRow r).getD (2 * i2) 0) 0) (m.getD ((permRow r).getD ((2 * i2) + 1) 0) 0)).c)).set pd ((mix4 (v2.getD pa 0) (v2.getD pb 0) (v2.getD pc 0) (v2.getD pd 0) (m.getD ((permRow r).getD (2 * i2) 0) 0) (m.getD ((permRow r).getD ((2 * i2) + 1) 0) 0)).d)) = _ from List.length_set.trans (show List.length (((v2.set pa ((mix4 (v2.getD pa 0) (v2.getD pb 0) (v2.getD pc 0) (v2.getD pd 0) (m.getD ((permRow r).getD (2 * i2) 0) 0) (m.getD ((permRow r).getD ((2 * i2) + 1) 0) 0)).a)).set pb ((mix4 (v2.getD pa 0) (v2.getD pb 0) (v2.getD pc 0) (v2.getD pd 0) (m.getD ((permRow r).getD (2 * i2) 0) 0) (m.getD ((permRow r).getD ((2 * i2) + 1) 0) 0)).b)).set pc ((mix4 (v2.getD pa 0) (v2.getD pb 0) (v2.getD pc 0) (v2.getD pd 0) (m.getD ((permRow r).getD (2 * i2) 0) 0) (m.getD ((permRow r).getD ((2 * i2) + 1) 0) 0)).c)) = _ from List.length_set.trans (show List.length ((v2.set pa ((mix4 (v2.getD pa 0) (v2.getD pb 0) (v2.getD pc 0) (v2.getD pd 0) (m.getD ((permRow r).getD (2 * i2) 0) 0) (m.getD ((permRow r).getD ((2 * i2) + 1) 0) 0)).a)).set pb ((mix4 (v2.getD pa 0) (v2.getD pb 0) (v2.getD pc 0) (v2.getD pd 0) (m.getD ((permRow r).getD (2 * i2) 0) 0) (m.getD ((permRow r).getD ((2 * i2) + 1) 0) 0)).b)) = _ from List.length_set.trans (show List.length (v2.set pa ((mix4 (v2.getD pa 0) (v2.getD pb 0) (v2.getD pc 0) (v2.getD pd 0) (m.getD ((permRow r).getD (2 * i2) 0) 0) (m.getD ((permRow r).getD ((2 * i2) + 1) 0) 0)).a)) = _ from List.length_set.trans hvl2))))
              rw [← e1112] at b1098
              have b1114 : Blk w1097 g2 48 (u32Vals h) := ((((((b939.ext hx956).ext hx1050).grownN hg1072 (by omega)).grownN hg1081 (by omega)).grownN hg1090 (by omega)).grownN hg1099 (by omega))
              have b1115 : Blk w1097 g10 48 (u32Vals (List.replicate 8 0)) := ((((((b940.ext hx956).ext hx1050).grownN hg1072 (by omega)).grownN hg1081 (by omega)).grownN hg1090 (by omega)).grownN hg1099 (by omega))
              have b1116 : Blk w1097 g143 48 (u32Vals iv) := ((((((b943.ext hx956).ext hx1050).grownN hg1072 (by omega)).grownN hg1081 (by omega)).grownN hg1090 (by omega)).grownN hg1099 (by omega))
              refine ⟨⟨(i2 + 1), v1111, ((((((((((((((((((hF1110.nil.cons (q_get hF1110 (t := 16) rfl (by first | rfl | (congr 1; omega) | (congr 1; done)))).cons (q_get hF1110 (t := 79) rfl rfl)).cons (q_get hF1110 (t := 15) rfl rfl)).cons (q_get hF1110 (t := 14) rfl rfl)).cons (q_get hF1110 (t := 72) rfl rfl)).cons (q_get hF1110 (t := 45) rfl rfl)).cons (q_get hF1110 (t := 13) rfl rfl)).cons (q_get hF1110 (t := 12) rfl rfl)).cons (q_get hF1110 (t := 11) rfl rfl)).cons (q_get hF1110 (t := 22) rfl rfl)).cons (q_get hF1110 (t := 10) rfl rfl)).cons (q_get hF1110 (t := 9) rfl rfl)).cons (q_get hF1110 (t := 8) rfl rfl)).cons (q_get hF1110 (t := 4) rfl rfl)).cons (q_get hF1110 (t := 3) rfl rfl)).cons (q_get hF1110 (t := 2) rfl rfl)).cons (q_get hF1110 (t := 1) rfl rfl)).cons (q_get hF1110 (t := 0) rfl rfl)), (by omega), (mixTo_r hp822 pm937 rfl e1112), ((((((((Ext.refl w).trans hx936).trans hx956).trans hx1050).grownN hg1072 (by omega)).grownN hg1081 (by omega)).grownN hg1090 (by omega)).grownN hg1099 (by omega)), b1114, b1115, b1103, b1098, b1116, b1102, (by omega)⟩, ?_⟩
              rw [hF1110.get (t := 16) rfl, hL830.get (t := 16) rfl]; simp [intOf] <;> omega
          · skip
            refine wp_cond_false (c_false hF843 rfl (decide_eq_false hc844)) ?_
            refine wp_exit ?_
            refine exit_then ?_
            refine exit_then ?_
            refine exit_here ?_
            refine hK813 _ _ ?_
            clear hK813
            refine wp_region_lit ?_
            refine wpl_op (i := 0) rfl (o_val (v := (.int .i64 (r : Nat))) hF843 rfl rfl rfl rfl (rn_move (hF843.get rfl)) ?_)
            intro a1117 hF1118; clear hF843
            refine wpl_op (i := 1) rfl (o_val (v := (.int .i64 (r + 1 : Nat))) hF1118 rfl rfl rfl rfl (rn_addN (a := r) (b := 1) (hF1118.get rfl) rfl (by omega)) ?_)
            intro a1119 hF1120; clear hF1118
            refine wpl_op (i := 2) rfl (o_val (v := (.int .i64 (r + 1 : Nat))) hF1120 rfl rfl rfl rfl (rn_assign (hF1120.get rfl)) ?_)
            intro a1121 hF1122; clear hF1120
            refine wpList_nil ?_
            refine ⟨⟨(r + 1), v2, ((((((((((((((((hF1122.nil.cons (q_get hF1122 (t := 15) rfl (by first | rfl | (congr 1; omega) | (congr 1; done)))).cons (q_get hF1122 (t := 14) rfl rfl)).cons (q_get hF1122 (t := 72) rfl rfl)).cons (q_get hF1122 (t := 45) rfl rfl)).cons (q_get hF1122 (t := 13) rfl rfl)).cons (q_get hF1122 (t := 12) rfl rfl)).cons (q_get hF1122 (t := 11) rfl rfl)).cons (q_get hF1122 (t := 22) rfl rfl)).cons (q_get hF1122 (t := 10) rfl rfl)).cons (q_get hF1122 (t := 9) rfl rfl)).cons (q_get hF1122 (t := 8) rfl rfl)).cons (q_get hF1122 (t := 4) rfl rfl)).cons (q_get hF1122 (t := 3) rfl rfl)).cons (q_get hF1122 (t := 2) rfl rfl)).cons (q_get hF1122 (t := 1) rfl rfl)).cons (q_get hF1122 (t := 0) rfl rfl)), (by omega), (roundTo_step (by omega) hp790 (by rw [hp822, show i2 = 8 by omega])), ((Ext.refl w).trans hx820), b823, b824, b825, b826, b827, b828, (by omega)⟩, ?_⟩
            rw [hF1122.get (t := 15) rfl, hL798.get (t := 15) rfl]; simp [intOf] <;> omega
        · skip
          refine wp_cond_false (c_false hF811 rfl (decide_eq_false hc812)) ?_
          refine wp_exit ?_
          refine exit_then ?_
          refine exit_then ?_
          refine exit_here ?_
          refine hK773 _ _ ?_
          clear hK773
          refine wp_seq_k (fun K1123 hK1123 => ?_)
          refine wp_seq_k (fun K1124 hK1124 => ?_)
          refine wp_region_lit ?_
          refine wpl_op (i := 0) rfl (o_val (v := (.int .i64 0)) hF811 rfl rfl rfl rfl (rn_assign rfl) ?_)
          intro a1125 hF1126; clear hF811
          refine wpList_nil ?_
          refine hK1124 _ _ ?_
          clear hK1124
          refine wp_block ?_
          have hv10 : v = roundTo (words b) (begin_ h n last) 10 := by rw [hp790, hv1, hmw, show r = 10 from by omega]
          refine wp_loop (fun a' W => ∃ (k5 : Nat) (hh2 : List UInt32), Sl 182 [(0, (.agg (u32Vals h).toArray)), (1, (.slice A 64 c)), (2, (.int .u64 (n.toNat : Nat))), (3, (.bool last)), (4, (.pointer (some ⟨g2, 0, none⟩))), (8, (.pointer (some ⟨g10, 0, none⟩))), (9, (.pointer (some ⟨g21, 0, none⟩))), (10, (.int .i64 (k : Nat))), (22, (.bool (decide (((k : Nat) : Int) < (64 : Int))))), (11, (.pointer (some ⟨g125, 0, none⟩))), (12, (.pointer (some ⟨g143, 0, none⟩))), (13, (.int .i64 (k1 : Nat))), (45, (.bool (decide (((k1 : Nat) : Int) < (8 : Int))))), (72, (.bool last)), (14, (.pointer (some ⟨g761, 0, none⟩))), (15, (.int .i64 (r : Nat))), (79, (.bool (decide (((r : Nat) : Int) < (10 : Int))))), (19, (.int .i64 (k5 : Nat)))] a' ∧ k5 ≤ 8 ∧ hh2 = closeTo v h k5 ∧ Ext w W ∧ Blk W g2 48 (u32Vals hh2) ∧ Blk W g10 48 (u32Vals (List.replicate 8 0)) ∧ Blk W g21 62 (u32Vals m) ∧ Blk W g125 62 (u32Vals v) ∧ Blk W g143 48 (u32Vals iv) ∧ Blk W g761 70 (intVals permI) ∧ w786.heap.size ≤ W.heap.size) (fun a' _ => 8 - (intOf (a'.eval (.tmp 19))).toNat) ⟨0, h, ((((((((((((((((((hF1126.nil.cons (q_get hF1126 (t := 19) rfl (by first | rfl | (congr 1; omega) | (congr 1; done)))).cons (q_get hF1126 (t := 79) rfl rfl)).cons (q_get hF1126 (t := 15) rfl rfl)).cons (q_get hF1126 (t := 14) rfl rfl)).cons (q_get hF1126 (t := 72) rfl rfl)).cons (q_get hF1126 (t := 45) rfl rfl)).cons (q_get hF1126 (t := 13) rfl rfl)).cons (q_get hF1126 (t := 12) rfl rfl)).cons (q_get hF1126 (t := 11) rfl rfl)).cons (q_get hF1126 (t := 22) rfl rfl)).cons (q_get hF1126 (t := 10) rfl rfl)).cons (q_get hF1126 (t := 9) rfl rfl)).cons (q_get hF1126 (t := 8) rfl rfl)).cons (q_get hF1126 (t := 4) rfl rfl)).cons (q_get hF1126 (t := 3) rfl rfl)).cons (q_get hF1126 (t := 2) rfl rfl)).cons (q_get hF1126 (t := 1) rfl rfl)).cons (q_get hF1126 (t := 0) rfl rfl)), (by omega), rfl, ((Ext.refl w).trans hx788), b791, b792, b793, b794, b795, b796, (Nat.le_refl _)⟩ ?_
          clear hF1126
          rintro a1127 w1128 ⟨k5, hh2, hF1129, hp1131, hp1132, hx1130, b1133, b1134, b1135, b1136, b1137, b1138, hf1139⟩
          have hL1140 := hF1129
          have z1141 := hx1130.size
          have z1142 := b1133.lt
          have z1143 := b1134.lt
          have z1144 := b1135.lt
          have z1145 := b1136.lt
          have z1146 := b1137.lt
          have z1147 := b1138.lt
          have hhl : hh2.length = 8 := by rw [hp1132]; exact closeTo_len hh
          refine wp_seq_k (fun K1148 hK1148 => ?_)
          refine wp_seq_k (fun K1149 hK1149 => ?_)
          refine wp_region_lit ?_
          refine wpl_op (i := 0) rfl (o_val (v := (.int .i64 (k5 : Nat))) hF1129 rfl rfl rfl rfl (rn_move (hF1129.get rfl)) ?_)
          intro a1150 hF1151; clear hF1129
          refine wpl_op (i := 1) rfl (o_val (v := (.bool (decide (((k5 : Nat) : Int) < (8 : Int))))) hF1151 rfl rfl rfl rfl (rn_lss (hF1151.get rfl) rfl) ?_)
          intro a1152 hF1153; clear hF1151
          refine wpList_nil ?_
          refine hK1149 _ _ ?_
          clear hK1149
          by_cases hc1154 : ((k5 : Nat) : Int) < (8 : Int)
          · skip
            refine wp_cond_true (c_true hF1153 rfl (decide_eq_true hc1154)) ?_
            refine wp_skip ?_
            refine hK1148 _ _ ?_
            clear hK1148
            refine wp_seq_k (fun K1155 hK1155 => ?_)
            refine wp_block ?_
            have hx1157 : ∃ W, w1128.drew = W ∧ Ext w1128 W := ⟨_, rfl, (Ext.refl _).drew⟩
            obtain ⟨w1156, e1158, hx1157⟩ := hx1157
            have z1159 := hx1157.size
            refine any_start (fun W => Ext w1156 W ∧ Blk W g2 48 (u32Vals hh2) ∧ Blk W g125 62 (u32Vals v)) (fun i => i == 14) 15 #[false, false, false, false, false, false, false, false, false, false, false, false, false, false, false] rfl rfl rfl ?_
            rw [e1158]; clear e1158
            refine any_pure (i := 0) (v := (.int .i64 (k5 : Nat))) hF1153 (by decide +kernel) (by decide +kernel) rfl rfl rfl rfl (fun _ _ _ _ h => h) rfl (fun W => (rn_move (hF1153.get rfl))) ?_
            intro a1160 hF1161; clear hF1153
            refine any_pure (i := 1) (v := (.int .i64 (k5 : Nat))) hF1161 (by decide +kernel) (by decide +kernel) rfl rfl rfl rfl (fun _ _ _ _ h => h) rfl (fun W => (rn_move (hF1161.get rfl))) ?_
            intro a1162 hF1163; clear hF1161
            refine any_pure (i := 2) (v := (.pointer (some ⟨g2, 0 + k5, none⟩))) hF1163 (by decide +kernel) (by decide +kernel) rfl rfl rfl rfl (fun _ _ _ _ h => h) rfl (fun W => (rn_indexArr Tryd.underlying48 (by kernel_rfl : (Tryd.prog.info? 47).map (·.size) = some 1) (hF1163.get rfl) (hF1163.get rfl) (by omega : (0 : Int) ≤ (k5 : Nat)) (by omega : ((k5 : Nat) : Int) < ((8 : Nat) : Int)))) ?_
            intro a1164 hF1165; clear hF1163
            have b1167 : Blk w1156 g2 48 (u32Vals hh2) := (b1133.ext hx1157)
            have b1168 : Blk w1156 g125 62 (u32Vals v) := (b1136.ext hx1157)
            have hS1166 : Ext w1156 w1156 ∧ Blk w1156 g2 48 (u32Vals hh2) ∧ Blk w1156 g125 62 (u32Vals v) := ⟨(Ext.refl w1156), b1167, b1168⟩
            refine any_val (i := 3) (v := (.int .u32 ((hh2.getD k5 0).toNat : Nat))) hF1165 (by decide +kernel) (by decide +kernel) rfl rfl rfl rfl (fun _ _ _ _ h => h) rfl hS1166 (fun W hW => (rn_load (isAgg_no Tryd.underlying47 rfl) (hF1165.get rfl) (blk_word hW.2.1 (by omega) (by have := (show List.length hh2 = _ from hhl); omega)))) ?_
            intro a1169 hF1170; clear hF1165
            refine any_pure (i := 4) (v := (.int .i64 (k5 : Nat))) hF1170 (by decide +kernel) (by decide +kernel) rfl rfl rfl rfl (fun _ _ _ _ h => h) rfl (fun W => (rn_move (hF1170.get rfl))) ?_
            intro a1171 hF1172; clear hF1170
            refine any_pure (i := 5) (v := (.pointer (some ⟨g125, 0 + k5, none⟩))) hF1172 (by decide +kernel) (by decide +kernel) rfl rfl rfl rfl (fun _ _ _ _ h => h) rfl (fun W => (rn_indexArr Tryd.underlying62 (by kernel_rfl : (Tryd.prog.info? 47).map (·.size) = some 1) (hF1172.get rfl) (hF1172.get rfl) (by omega : (0 : Int) ≤ (k5 : Nat)) (by omega : ((k5 : Nat) : Int) < ((16 : Nat) : Int)))) ?_
            intro a1173 hF1174; clear hF1172
            refine any_val (i := 6) (v := (.int .u32 ((v.getD k5 0).toNat : Nat))) hF1174 (by decide +kernel) (by decide +kernel) rfl rfl rfl rfl (fun _ _ _ _ h => h) rfl hS1166 (fun W hW => (rn_load (isAgg_no Tryd.underlying47 rfl) (hF1174.get rfl) (blk_word hW.2.2 (by omega) (by have := (show List.length v = _ from hvl); omega)))) ?_
            intro a1175 hF1176; clear hF1174
            refine any_pure (i := 7) (v := (.int .u32 (((hh2.getD k5 0) ^^^ (v.getD k5 0)).toNat : Nat))) hF1176 (by decide +kernel) (by decide +kernel) rfl rfl rfl rfl (fun _ _ _ _ h => h) rfl (fun W => (rn_xor32 (a := (hh2.getD k5 0)) (b := (v.getD k5 0)) (hF1176.get rfl) (hF1176.get rfl))) ?_
            intro a1177 hF1178; clear hF1176
            refine any_pure (i := 8) (v := (.int .i64 (k5 : Nat))) hF1178 (by decide +kernel) (by decide +kernel) rfl rfl rfl rfl (fun _ _ _ _ h => h) rfl (fun W => (rn_move (hF1178.get rfl))) ?_
            intro a1179 hF1180; clear hF1178
            refine any_pure (i := 9) (v := (.int .i64 (8 + k5 : Nat))) hF1180 (by decide +kernel) (by decide +kernel) rfl rfl rfl rfl (fun _ _ _ _ h => h) rfl (fun W => (rn_addN (a := 8) (b := k5) rfl (hF1180.get rfl) (by omega))) ?_
            intro a1181 hF1182; clear hF1180
            refine any_pure (i := 10) (v := (.pointer (some ⟨g125, 0 + (8 + k5), none⟩))) hF1182 (by decide +kernel) (by decide +kernel) rfl rfl rfl rfl (fun _ _ _ _ h => h) rfl (fun W => (rn_indexArr Tryd.underlying62 (by kernel_rfl : (Tryd.prog.info? 47).map (·.size) = some 1) (hF1182.get rfl) (hF1182.get rfl) (by omega : (0 : Int) ≤ (8 + k5 : Nat)) (by omega : ((8 + k5 : Nat) : Int) < ((16 : Nat) : Int)))) ?_
            intro a1183 hF1184; clear hF1182
            refine any_val (i := 11) (v := (.int .u32 ((v.getD (8 + k5) 0).toNat : Nat))) hF1184 (by decide +kernel) (by decide +kernel) rfl rfl rfl rfl (fun _ _ _ _ h => h) rfl hS1166 (fun W hW => (rn_load (isAgg_no Tryd.underlying47 rfl) (hF1184.get rfl) (blk_word hW.2.2 (by omega) (by have := (show List.length v = _ from hvl); omega)))) ?_
            intro a1185 hF1186; clear hF1184
            refine any_pure (i := 12) (v := (.int .u32 ((((hh2.getD k5 0) ^^^ (v.getD k5 0)) ^^^ (v.getD (8 + k5) 0)).toNat : Nat))) hF1186 (by decide +kernel) (by decide +kernel) rfl rfl rfl rfl (fun _ _ _ _ h => h) rfl (fun W => (rn_xor32 (a := ((hh2.getD k5 0) ^^^ (v.getD k5 0))) (b := (v.getD (8 + k5) 0)) (hF1186.get rfl) (hF1186.get rfl))) ?_
            intro a1187 hF1188; clear hF1186
            refine any_pure (i := 13) (v := (.pointer (some ⟨g2, 0 + k5, none⟩))) hF1188 (by decide +kernel) (by decide +kernel) rfl rfl rfl rfl (fun _ _ _ _ h => h) rfl (fun W => (rn_indexArr Tryd.underlying48 (by kernel_rfl : (Tryd.prog.info? 47).map (·.size) = some 1) (hF1188.get rfl) (hF1188.get rfl) (by omega : (0 : Int) ≤ (k5 : Nat)) (by omega : ((k5 : Nat) : Int) < ((8 : Nat) : Int)))) ?_
            intro a1189 hF1190; clear hF1188
            refine any_one (i := 14) (by decide +kernel) rfl ?_
            refine o_store1 (new := (u32Vals (hh2.set k5 (((hh2.getD k5 0) ^^^ (v.getD k5 0)) ^^^ (v.getD (8 + k5) 0))))) hF1190 rfl rfl rfl rfl (hF1190.get rfl) (hF1190.get rfl) b1167 (by kernel_rfl : (Tryd.prog.info? 47).map (·.size) = some 1) (by rw [u32Vals_len hhl]; omega) rfl (u32Vals_set (by omega)) ?_
            intro w1191 b1192 hg1193; have z1194 := hg1193.size
            refine ⟨fun h => absurd h (by decide), ?_⟩
            refine any_nil (by decide +kernel) ?_
            refine hK1155 _ _ ?_
            clear hK1155
            have hF1195 := (((((((((((((((((((hF1190.nil.cons (hF1190.get (t := 164) (v := (.bool (decide (((k5 : Nat) : Int) < (8 : Int))))) rfl)).cons (hF1190.get (t := 19) (v := (.int .i64 (k5 : Nat))) rfl)).cons (hF1190.get (t := 79) (v := (.bool (decide (((r : Nat) : Int) < (10 : Int))))) rfl)).cons (hF1190.get (t := 15) (v := (.int .i64 (r : Nat))) rfl)).cons (hF1190.get (t := 14) (v := (.pointer (some ⟨g761, 0, none⟩))) rfl)).cons (hF1190.get (t := 72) (v := (.bool last)) rfl)).cons (hF1190.get (t := 45) (v := (.bool (decide (((k1 : Nat) : Int) < (8 : Int))))) rfl)).cons (hF1190.get (t := 13) (v := (.int .i64 (k1 : Nat))) rfl)).cons (hF1190.get (t := 12) (v := (.pointer (some ⟨g143, 0, none⟩))) rfl)).cons (hF1190.get (t := 11) (v := (.pointer (some ⟨g125, 0, none⟩))) rfl)).cons (hF1190.get (t := 22) (v := (.bool (decide (((k : Nat) : Int) < (64 : Int))))) rfl)).cons (hF1190.get (t := 10) (v := (.int .i64 (k : Nat))) rfl)).cons (hF1190.get (t := 9) (v := (.pointer (some ⟨g21, 0, none⟩))) rfl)).cons (hF1190.get (t := 8) (v := (.pointer (some ⟨g10, 0, none⟩))) rfl)).cons (hF1190.get (t := 4) (v := (.pointer (some ⟨g2, 0, none⟩))) rfl)).cons (hF1190.get (t := 3) (v := (.bool last)) rfl)).cons (hF1190.get (t := 2) (v := (.int .u64 (n.toNat : Nat))) rfl)).cons (hF1190.get (t := 1) (v := (.slice A 64 c)) rfl)).cons (hF1190.get (t := 0) (v := (.agg (u32Vals h).toArray)) rfl))
            clear hF1190
            refine wp_region_lit ?_
            refine wpl_op (i := 0) rfl (o_val (v := (.int .i64 (k5 : Nat))) hF1195 rfl rfl rfl rfl (rn_move (hF1195.get rfl)) ?_)
            intro a1196 hF1197; clear hF1195
            refine wpl_op (i := 1) rfl (o_val (v := (.int .i64 (k5 + 1 : Nat))) hF1197 rfl rfl rfl rfl (rn_addN (a := k5) (b := 1) (hF1197.get rfl) rfl (by omega)) ?_)
            intro a1198 hF1199; clear hF1197
            refine wpl_op (i := 2) rfl (o_val (v := (.int .i64 (k5 + 1 : Nat))) hF1199 rfl rfl rfl rfl (rn_assign (hF1199.get rfl)) ?_)
            intro a1200 hF1201; clear hF1199
            refine wpList_nil ?_
            obtain ⟨v1202, e1203⟩ : ∃ z, z = hh2.set k5 (((hh2.getD k5 0) ^^^ (v.getD k5 0)) ^^^ (v.getD (8 + k5) 0)) := ⟨_, rfl⟩
            have hl1204 : v1202.length = 8 := (congrArg List.length e1203).trans (show List.length (hh2.set k5 (((hh2.getD k5 0) ^^^ (v.getD k5 0)) ^^^ (v.getD (8 + k5) 0))) = _ from List.length_set.trans hhl)
            rw [← e1203] at b1192
            have b1205 : Blk w1191 g10 48 (u32Vals (List.replicate 8 0)) := ((b1134.ext hx1157).grownN hg1193 (by omega))
            have b1206 : Blk w1191 g21 62 (u32Vals m) := ((b1135.ext hx1157).grownN hg1193 (by omega))
            have b1207 : Blk w1191 g125 62 (u32Vals v) := (b1168.grownN hg1193 (by omega))
            have b1208 : Blk w1191 g143 48 (u32Vals iv) := ((b1137.ext hx1157).grownN hg1193 (by omega))
            have b1209 : Blk w1191 g761 70 (intVals permI) := ((b1138.ext hx1157).grownN hg1193 (by omega))
            refine ⟨⟨(k5 + 1), v1202, ((((((((((((((((((hF1201.nil.cons (q_get hF1201 (t := 19) rfl (by first | rfl | (congr 1; omega) | (congr 1; done)))).cons (q_get hF1201 (t := 79) rfl rfl)).cons (q_get hF1201 (t := 15) rfl rfl)).cons (q_get hF1201 (t := 14) rfl rfl)).cons (q_get hF1201 (t := 72) rfl rfl)).cons (q_get hF1201 (t := 45) rfl rfl)).cons (q_get hF1201 (t := 13) rfl rfl)).cons (q_get hF1201 (t := 12) rfl rfl)).cons (q_get hF1201 (t := 11) rfl rfl)).cons (q_get hF1201 (t := 22) rfl rfl)).cons (q_get hF1201 (t := 10) rfl rfl)).cons (q_get hF1201 (t := 9) rfl rfl)).cons (q_get hF1201 (t := 8) rfl rfl)).cons (q_get hF1201 (t := 4) rfl rfl)).cons (q_get hF1201 (t := 3) rfl rfl)).cons (q_get hF1201 (t := 2) rfl rfl)).cons (q_get hF1201 (t := 1) rfl rfl)).cons (q_get hF1201 (t := 0) rfl rfl)), (by omega), (closeTo_r hp1132 e1203), ((((Ext.refl w).trans hx1130).trans hx1157).grownN hg1193 (by omega)), b1192, b1205, b1206, b1207, b1208, b1209, (by omega)⟩, ?_⟩
            rw [hF1201.get (t := 19) rfl, hL1140.get (t := 19) rfl]; simp [intOf] <;> omega
          · skip
            refine wp_cond_false (c_false hF1153 rfl (decide_eq_false hc1154)) ?_
            refine wp_exit ?_
            refine exit_then ?_
            refine exit_then ?_
            refine exit_here ?_
            refine hK1123 _ _ ?_
            clear hK1123
            refine wp_seq_k (fun K1210 hK1210 => ?_)
            refine wp_region_lit ?_
            refine wpl_op (i := 0) rfl (o_val (v := (.agg (u32Vals hh2).toArray)) hF1153 rfl rfl rfl rfl (rn_loadBlk (hF1153.get rfl) b1133 Tryd.underlying48 rfl ((by kernel_rfl : (Tryd.prog.info? 48).map (·.size) = some 8).trans (congrArg some (u32Vals_len hhl).symm))) ?_)
            intro a1211 hF1212; clear hF1153
            refine wpl_op (i := 1) rfl (o_store (cells := (u32Vals hh2)) hF1212 rfl rfl rfl rfl (hF1212.get rfl) (hF1212.get rfl) b1134 ((by kernel_rfl : (Tryd.prog.info? 48).map (·.size) = some 8).trans (congrArg some (u32Vals_len hhl).symm)) ((u32Vals_len (show List.length (List.replicate 8 0) = _ from List.length_replicate)).trans (u32Vals_len hhl).symm) (u32Vals_one _) ?_)
            intro w1213 b1214 hg1215; have z1216 := hg1215.size
            refine wpList_nil ?_
            refine hK1210 _ _ ?_
            clear hK1210
            refine wp_ret ?_
            refine retC hF1212 rfl rfl b1214 Tryd.underlying48 rfl ((by kernel_rfl : (Tryd.prog.info? 48).map (·.size) = some 8).trans (congrArg some (u32Vals_len hhl).symm)) ?_
            have hk8 : k5 = 8 := by omega
            subst hk8
            exact ⟨by rw [absorb_eq hv10 hp1132], (((Ext.refl w).trans hx1130).grownN hg1215 (by omega))⟩

theorem rblock_at (h : List UInt32) (b : List UInt8) (n : UInt64) (last : Bool) {v : Value} (w : World) (hh : h.length = 8) (hf : Fl S w 1 v 64 (byteVals b)) : Calls Tryd.prog 26 #[.agg (u32Vals h).toArray, v, .int .u64 (n.toNat : Nat), .bool last] w (fun e w' => e = .returned (.agg (u32Vals (absorb h b n last)).toArray) ∧ Ext w w') := by
  obtain ⟨A, c, rfl, _⟩ := hf.form
  exact rblock_any h A c b n last w hh hf

end Go.Proofs.YtgodliookpgliaaDoor
