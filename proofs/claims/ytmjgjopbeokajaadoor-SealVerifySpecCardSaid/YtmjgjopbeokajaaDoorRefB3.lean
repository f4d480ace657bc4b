/- Contract of the reference's block. -/
import Derived.Test.YtmjgjopbeokajaaDoorProg
import Derived.Test.YtmjgjopbeokajaaDoorBunE
import Derived.KernelRfl
import Derived.Test.YtmjgjopbeokajaaDoorBunA
import Derived.Test.YtmjgjopbeokajaaDoorBunB
namespace Go.Proofs.YtmjgjopbeokajaaDoor
open Go.RowKit

variable {S S' : Nat → Prop}

def vTo (h : List UInt32) (k : Nat) : List UInt32 := (h.take k ++ List.replicate (8 - k) 0) ++ (iv.take k ++ List.replicate (8 - k) 0)
theorem vTo_len {h : List UInt32} {k : Nat} (hh : h.length = 8) (hk : k ≤ 8) : (vTo h k).length = 16 := by simp [vTo, hh, iv_len]; omega
theorem half_set {a : List UInt32} {k : Nat} (ha : a.length = 8) (hk : k < 8) : (a.take k ++ List.replicate (8 - k) (0 : UInt32)).set k (a.getD k 0) = a.take (k + 1) ++ List.replicate (8 - (k + 1)) 0 := by
  rw [List.set_append_right _ _ (by simp; omega), List.length_take, Nat.min_eq_left (by omega), Nat.sub_self, show 8 - k = (8 - (k + 1)) + 1 by omega, List.replicate_succ, List.set_cons_zero, List.take_add_one, List.getD_eq_getElem?_getD, List.getElem?_eq_getElem (by omega), List.append_assoc]
  rfl
theorem vTo_step {h v v' : List UInt32} {k : Nat} (hh : h.length = 8) (hk : k < 8) (hv : v = vTo h k) (he : v' = (v.set k (h.getD k 0)).set (8 + k) (iv.getD k 0)) : v' = vTo h (k + 1) := by
  have h1 : (h.take k ++ List.replicate (8 - k) (0 : UInt32)).length = 8 := by simp [hh]; omega
  rw [he, hv, vTo, List.set_append_left _ _ (by omega), half_set hh hk, List.set_append_right _ _ (by simp [hh]; omega)]
  have h2 : (h.take (k + 1) ++ List.replicate (8 - (k + 1)) (0 : UInt32)).length = 8 := by simp [hh]; omega
  rw [h2, Nat.add_sub_cancel_left, half_set iv_len hk]; rfl
theorem vTo_done {h v : List UInt32} (hh : h.length = 8) (hv : v = vTo h 8) : v = h ++ iv := by rw [hv, vTo, List.take_of_length_le (by omega), List.take_of_length_le (by rw [iv_len]; omega)]; simp
theorem xor_all (a : UInt32) : a ^^^ 4294967295 = ~~~ a := by
  rw [UInt32.xor_comm]
  exact UInt32.toBitVec_inj.1 (BitVec.allOnes_xor (x := a.toBitVec))
theorem mixTo_r1 {m : List UInt32} {r : Nat} {v0 v v' : List UInt32} {k a b c d : Nat} {q : Four} (hk : k < 4) (hv : v = mixTo m (permRow r) v0 k) (ha : a = k % 4) (hb : b = 4 + k % 4) (hc : c = 8 + k % 4) (hd : d = 12 + k % 4)
    (hq : q = mix4 (v.getD a 0) (v.getD b 0) (v.getD c 0) (v.getD d 0) (m.getD ((permRow r).getD (2 * k) 0) 0) (m.getD ((permRow r).getD (2 * k + 1) 0) 0)) (he : v' = (((v.set a q.a).set b q.b).set c q.c).set d q.d) : v' = mixTo m (permRow r) v0 (k + 1) := by
  have h0 : k % 4 = k := Nat.mod_eq_of_lt hk
  rw [h0] at ha hb hc hd
  subst ha hb hc hd hq
  rw [mixTo, foldl_range, ← mixTo, ← hv, he]
  simp [mixAt, hk, mixv, put4, at_]
theorem mixTo_r2 {m : List UInt32} {r : Nat} {v0 v v' : List UInt32} {k a b c d : Nat} {q : Four} (hk : ¬ k < 4) (hv : v = mixTo m (permRow r) v0 k) (ha : a = k % 4) (hb : b = 4 + (k % 4 + 1) % 4) (hc : c = 8 + (k % 4 + 2) % 4) (hd : d = 12 + (k % 4 + 3) % 4)
    (hq : q = mix4 (v.getD a 0) (v.getD b 0) (v.getD c 0) (v.getD d 0) (m.getD ((permRow r).getD (2 * k) 0) 0) (m.getD ((permRow r).getD (2 * k + 1) 0) 0)) (he : v' = (((v.set a q.a).set b q.b).set c q.c).set d q.d) : v' = mixTo m (permRow r) v0 (k + 1) := by
  subst ha hb hc hd hq
  rw [mixTo, foldl_range, ← mixTo, ← hv, he]
  simp only [mixAt, hk, if_false, mixv, put4, at_]
theorem mixTo_r {m : List UInt32} {r : Nat} {v0 v v' : List UInt32} {k a b c d : Nat} {q : Four} (hv : v = mixTo m (permRow r) v0 k)
    (hp : (k < 4 ∧ a = k % 4 ∧ b = 4 + k % 4 ∧ c = 8 + k % 4 ∧ d = 12 + k % 4) ∨ (¬ k < 4 ∧ a = k % 4 ∧ b = 4 + (k % 4 + 1) % 4 ∧ c = 8 + (k % 4 + 2) % 4 ∧ d = 12 + (k % 4 + 3) % 4))
    (hq : q = mix4 (v.getD a 0) (v.getD b 0) (v.getD c 0) (v.getD d 0) (m.getD ((permRow r).getD (2 * k) 0) 0) (m.getD ((permRow r).getD (2 * k + 1) 0) 0)) (he : v' = (((v.set a q.a).set b q.b).set c q.c).set d q.d) : v' = mixTo m (permRow r) v0 (k + 1) := by
  rcases hp with ⟨hk, ha, hb, hc, hd⟩ | ⟨hk, ha, hb, hc, hd⟩
  · exact mixTo_r1 hk hv ha hb hc hd hq he
  · exact mixTo_r2 hk hv ha hb hc hd hq he
theorem closeTo_r {v h0 h h' : List UInt32} {k : Nat} (hh : h = closeTo v h0 k) (he : h' = h.set k ((h.getD k 0 ^^^ v.getD k 0) ^^^ v.getD (8 + k) 0)) : h' = closeTo v h0 (k + 1) := by
  rw [he, hh, closeTo, closeTo, foldl_range, ← closeTo, close_, at_, at_, at_]

set_option maxRecDepth 100000 in
set_option maxHeartbeats 1000000 in
theorem rblock_any (h : List UInt32) (A : Option Addr) (c : Nat) (b : List UInt8) (n : UInt64) (last : Bool) (w : World) (hh : h.length = 8) (hf : Fl S w 1 (.slice A 64 c) 64 (byteVals b)) :
    Calls Tryd.prog 68 #[.agg (u32Vals h).toArray, .slice A 64 c, .int .u64 (n.toNat : Nat), .bool last] w (fun e w' => e = .returned (.agg (u32Vals (absorb h b n last)).toArray) ∧ Ext w w') := by
  have hc : Fl (Clip S w) w 1 (.slice A 64 c) 64 (byteVals b) := hf.clip
  have hcc := (Fl.cel hc).2.1
  have hbl := Fl.blen hf
  refine calls_enter (l := [(.agg (u32Vals h).toArray), (.slice A 64 c), (.int .u64 (n.toNat : Nat)), (.bool last)]) Tryd.func68 rfl rfl rfl (fun aA hF => ?_)
  refine wp_seq_k (fun K1 hK1 => ?_)
  refine wp_region_lit ?_
  refine wpl_op (i := 0) rfl (o_new (fun g => (.pointer (some ⟨g, 0, none⟩))) (u32Vals h) 80 hF rfl rfl rfl rfl (rn_box (hF.get rfl) (box_arr _)) ?_)
  intro g2 w3 a8 F9 z6 z7 b4 hx5; clear hF
  refine wpl_op (i := 1) rfl (o_new (fun g => (.pointer (some ⟨g, 0, none⟩))) (u32Vals (List.replicate 8 0)) 80 F9 rfl rfl rfl rfl (by kernel_rfl) ?_)
  intro g10 w11 a16 F17 z14 z15 b12 hx13; clear F9
  refine wpList_nil ?_
  refine hK1 _ _ ?_
  clear hK1
  refine wp_seq_k (fun K18 hK18 => ?_)
  refine wp_region_lit ?_
  refine qv 0 (.agg (u32Vals (List.replicate 16 0)).toArray) F17 rfl (rn_build parts0 (by kernel_rfl)) fun _ F20 => ?_; clear F17
  refine wpl_op (i := 1) rfl (o_new (fun g => (.pointer (some ⟨g, 0, none⟩))) (u32Vals (List.replicate 16 0)) 89 F20 rfl rfl rfl rfl (by kernel_rfl) ?_)
  intro g21 w22 a27 F28 z25 z26 b23 hx24; clear F20
  refine wpl_op (i := 2) rfl (o_store (cells := (u32Vals (List.replicate 16 0))) F28 rfl rfl rfl rfl (F28.get rfl) (F28.get rfl) b23 (inf89.trans (congrArg some (u32Vals_len (show List.length (List.replicate 16 0) = _ from List.length_replicate)).symm)) ((u32Vals_len (show List.length (List.replicate 16 0) = _ from List.length_replicate)).trans (u32Vals_len (show List.length (List.replicate 16 0) = _ from List.length_replicate)).symm) (u32Vals_one _) ?_)
  intro w29 b30 hg31; have z32 := hg31.size
  refine wpList_nil ?_
  refine hK18 _ _ ?_
  clear hK18
  refine wp_seq_k (fun K33 hK33 => ?_)
  refine wp_seq_k (fun K34 hK34 => ?_)
  refine wp_region_lit ?_
  refine qv 0 (.int .i64 0) F28 rfl (rn_assign rfl) fun _ F36 => ?_; clear F28
  refine wpList_nil ?_
  refine hK34 _ _ ?_
  clear hK34
  refine wp_block ?_
  have b37 := (((b4.ext hx13).ext hx24).grownN hg31 (by omega))
  have b38 := ((b12.ext hx24).grownN hg31 (by omega))
  refine wp_loop (fun a' W => ∃ (k : Nat) (m : List UInt32), Sl 182 [(0, (.agg (u32Vals h).toArray)), (1, (.slice A 64 c)), (2, (.int .u64 (n.toNat : Nat))), (3, (.bool last)), (4, (.pointer (some ⟨g2, 0, none⟩))), (8, (.pointer (some ⟨g10, 0, none⟩))), (9, (.pointer (some ⟨g21, 0, none⟩))), (10, (.int .i64 (k : Nat)))] a' ∧ k ≤ 64 ∧ m = wordsTo b k ∧ Ext w W ∧ Blk W g2 80 (u32Vals h) ∧ Blk W g10 80 (u32Vals (List.replicate 8 0)) ∧ Blk W g21 89 (u32Vals m) ∧ w29.heap.size ≤ W.heap.size) (fun a' _ => 64 - (intOf (a'.eval (.tmp 10))).toNat) ⟨0, (List.replicate 16 0), ((((((((F36.nil.cons (q_get F36 (t := 10) rfl (by first | rfl | (congr 1; omega) | (congr 1; done)))).cons (q_get F36 (t := 9) rfl rfl)).cons (q_get F36 (t := 8) rfl rfl)).cons (q_get F36 (t := 4) rfl rfl)).cons (q_get F36 (t := 3) rfl rfl)).cons (q_get F36 (t := 2) rfl rfl)).cons (q_get F36 (t := 1) rfl rfl)).cons (q_get F36 (t := 0) rfl rfl)), (by omega), rfl, (((((Ext.refl w).trans hx5).trans hx13).trans hx24).grownN hg31 (by omega)), b37, b38, b30, (Nat.le_refl _)⟩ ?_
  clear F36
  rintro a39 w40 ⟨k, m, F41, hp43, hp44, hx42, b45, b46, b47, hf48⟩
  have hL49 := F41
  have z50 := hx42.size
  have z51 := b45.lt
  have z52 := b46.lt
  have z53 := b47.lt
  have hm : m.length = 16 := by rw [hp44]; exact wordsTo_len _ _
  refine wp_seq_k (fun K54 hK54 => ?_)
  refine wp_seq_k (fun K55 hK55 => ?_)
  refine wp_region_lit ?_
  refine qv 0 (.int .i64 (k : Nat)) F41 rfl (rn_move (F41.get rfl)) fun _ F57 => ?_; clear F41
  refine qv 1 (.bool (decide (((k : Nat) : Int) < (64 : Int)))) F57 rfl (rn_lss (F57.get rfl) rfl) fun _ F59 => ?_; clear F57
  refine wpList_nil ?_
  refine hK55 _ _ ?_
  clear hK55
  by_cases hc60 : ((k : Nat) : Int) < (64 : Int)
  · skip
    refine wp_cond_true (c_true F59 rfl (decide_eq_true hc60)) ?_
    refine wp_skip ?_
    refine hK54 _ _ ?_
    clear hK54
    refine wp_seq_k (fun K61 hK61 => ?_)
    refine wp_block ?_
    have hx63 : ∃ W, w40.drew = W ∧ Ext w40 W := ⟨_, rfl, (Ext.refl _).drew⟩
    obtain ⟨w62, e64, hx63⟩ := hx63
    have z65 := hx63.size
    refine any_start (fun W => Ext w62 W ∧ Blk W g21 89 (u32Vals m)) (fun i => i == 17) 18 #[false, false, false, false, false, false, false, false, false, false, false, false, false, false, false, false, false, false] rfl rfl rfl ?_
    rw [e64]; clear e64
    refine qp 0 (.int .i64 (k : Nat)) F59 rfl rfl (fun W => (rn_move (F59.get rfl))) fun _ F67 => ?_; clear F59
    refine qp 1 (.int .i64 (k / 4 : Nat)) F67 rfl rfl (fun W => (rn_quoN (a := k) (b := 4) (F67.get rfl) rfl (by omega) (by omega))) fun _ F69 => ?_; clear F67
    refine qp 2 (.int .i64 (k : Nat)) F69 rfl rfl (fun W => (rn_move (F69.get rfl))) fun _ F71 => ?_; clear F69
    refine qp 3 (.int .i64 (k / 4 : Nat)) F71 rfl rfl (fun W => (rn_quoN (a := k) (b := 4) (F71.get rfl) rfl (by omega) (by omega))) fun _ F73 => ?_; clear F71
    refine qp 4 (.pointer (some ⟨g21, 0 + (k / 4), none⟩)) F73 rfl rfl (fun W => (rn_indexArr Tryd.underlying89 inf79 (F73.get rfl) (F73.get rfl) (by omega : (0 : Int) ≤ (k / 4 : Nat)) (by omega : ((k / 4 : Nat) : Int) < ((16 : Nat) : Int)))) fun _ F75 => ?_; clear F73
    have b77 := (b47.ext hx63)
    have hS76 : Ext w62 w62 ∧ Blk w62 g21 89 (u32Vals m) := ⟨(Ext.refl w62), b77⟩
    refine qs 5 (.int .u32 ((m.getD (k / 4) 0).toNat : Nat)) F75 rfl rfl hS76 (fun W hW => (rn_load (isAgg_no Tryd.underlying79 rfl) (F75.get rfl) (blk_word hW.2 (by omega) (by have := (show List.length m = _ from hm); omega)))) fun _ F79 => ?_; clear F75
    refine qp 6 (.slice A 64 c) F79 rfl rfl (fun W => (rn_move (F79.get rfl))) fun _ F81 => ?_; clear F79
    refine qp 7 (.int .i64 (k : Nat)) F81 rfl rfl (fun W => (rn_move (F81.get rfl))) fun _ F83 => ?_; clear F81
    have d87 := ((hc.ext hx42).ext hx63)
    obtain ⟨b84, o85, hA86, -⟩ := Fl.at d87 (by omega)
    refine qp 8 (.pointer (some ⟨b84, o85 + k, none⟩)) F83 rfl rfl (fun W => (rn_index1 Tryd.underlying22 inf5 ((F83.get rfl).trans (by rw [hA86])) (F83.get rfl) (by omega : (0 : Int) ≤ (k : Nat)) (by omega : ((k : Nat) : Int) < ((64 : Nat) : Int)))) fun _ F89 => ?_; clear F83
    refine qs 9 (.int .u8 ((b.getD k 0).toNat : Nat)) F89 rfl rfl hS76 (fun W hW => (rn_load (isAgg_no Tryd.underlying5 rfl) (F89.get rfl) (Fl.cellAt (d87.ext hW.1) hA86 (byteVals_at (i := k) (by have := hbl; omega))))) fun _ F91 => ?_; clear F89
    refine qs 10 (.int .u32 (((b.getD k 0).toUInt32).toNat : Nat)) F91 rfl rfl hS76 (fun W hW => (rn_convW Tryd.underlying5 Tryd.underlying79 (F91.get rfl) (cv8_32 (b.getD k 0)))) fun _ F93 => ?_; clear F91
    refine qp 11 (.int .i64 (k : Nat)) F93 rfl rfl (fun W => (rn_move (F93.get rfl))) fun _ F95 => ?_; clear F93
    refine qp 12 (.int .i64 (k % 4 : Nat)) F95 rfl rfl (fun W => (rn_remN (a := k) (b := 4) (F95.get rfl) rfl (by omega))) fun _ F97 => ?_; clear F95
    refine qp 13 (.int .i64 (8 * (k % 4) : Nat)) F97 rfl rfl (fun W => (rn_mulN (a := 8) (b := k % 4) rfl (F97.get rfl) (by omega))) fun _ F99 => ?_; clear F97
    refine qp 14 (.int .u32 ((((b.getD k 0).toUInt32) <<< UInt32.ofNat (8 * (k % 4))).toNat : Nat)) F99 rfl rfl (fun W => (rn_shl32 (a := ((b.getD k 0).toUInt32)) (n := (8 * (k % 4))) (F99.get rfl) (F99.get rfl) (by omega))) fun _ F101 => ?_; clear F99
    refine qp 15 (.int .u32 (((m.getD (k / 4) 0) ||| (((b.getD k 0).toUInt32) <<< UInt32.ofNat (8 * (k % 4)))).toNat : Nat)) F101 rfl rfl (fun W => (rn_or32 (a := (m.getD (k / 4) 0)) (b := (((b.getD k 0).toUInt32) <<< UInt32.ofNat (8 * (k % 4)))) (F101.get rfl) (F101.get rfl))) fun _ F103 => ?_; clear F101
    refine qp 16 (.pointer (some ⟨g21, 0 + (k / 4), none⟩)) F103 rfl rfl (fun W => (rn_indexArr Tryd.underlying89 inf79 (F103.get rfl) (F103.get rfl) (by omega : (0 : Int) ≤ (k / 4 : Nat)) (by omega : ((k / 4 : Nat) : Int) < ((16 : Nat) : Int)))) fun _ F105 => ?_; clear F103
    refine any_one (i := 17) (by decide +kernel) rfl ?_
    refine o_store1 (new := (u32Vals (m.set (k / 4) ((m.getD (k / 4) 0) ||| (((b.getD k 0).toUInt32) <<< UInt32.ofNat (8 * (k % 4))))))) F105 rfl rfl rfl rfl (F105.get rfl) (F105.get rfl) b77 inf79 (by rw [u32Vals_len hm]; omega) rfl (u32Vals_set (by omega)) ?_
    intro w106 b107 hg108; have z109 := hg108.size
    refine ⟨fun h => absurd h (by decide), ?_⟩
    refine any_nil (by decide +kernel) ?_
    refine hK61 _ _ ?_
    clear hK61
    have F110 := (((((((((F105.nil.c F105 22 rfl).c F105 10 rfl).c F105 9 rfl).c F105 8 rfl).c F105 4 rfl).c F105 3 rfl).c F105 2 rfl).c F105 1 rfl).c F105 0 rfl)
    clear F105
    refine wp_region_lit ?_
    refine qv 0 (.int .i64 (k : Nat)) F110 rfl (rn_move (F110.get rfl)) fun _ F112 => ?_; clear F110
    refine qv 1 (.int .i64 (k + 1 : Nat)) F112 rfl (rn_addN (a := k) (b := 1) (F112.get rfl) rfl (by omega)) fun _ F114 => ?_; clear F112
    refine qv 2 (.int .i64 (k + 1 : Nat)) F114 rfl (rn_assign (F114.get rfl)) fun _ F116 => ?_; clear F114
    refine wpList_nil ?_
    obtain ⟨v117, e118⟩ : ∃ z, z = m.set (k / 4) ((m.getD (k / 4) 0) ||| (((b.getD k 0).toUInt32) <<< UInt32.ofNat (8 * (k % 4)))) := ⟨_, rfl⟩
    have hl119 : v117.length = 16 := (congrArg List.length e118).trans (show List.length (m.set (k / 4) ((m.getD (k / 4) 0) ||| (((b.getD k 0).toUInt32) <<< UInt32.ofNat (8 * (k % 4))))) = _ from List.length_set.trans hm)
    rw [← e118] at b107
    have b120 := ((b45.ext hx63).grownN hg108 (by omega))
    have b121 := ((b46.ext hx63).grownN hg108 (by omega))
    refine ⟨⟨(k + 1), v117, ((((((((F116.nil.cons (q_get F116 (t := 10) rfl (by first | rfl | (congr 1; omega) | (congr 1; done)))).cons (q_get F116 (t := 9) rfl rfl)).cons (q_get F116 (t := 8) rfl rfl)).cons (q_get F116 (t := 4) rfl rfl)).cons (q_get F116 (t := 3) rfl rfl)).cons (q_get F116 (t := 2) rfl rfl)).cons (q_get F116 (t := 1) rfl rfl)).cons (q_get F116 (t := 0) rfl rfl)), (by omega), (wordsTo_step hp44 e118), ((((Ext.refl w).trans hx42).trans hx63).grownN hg108 (by omega)), b120, b121, b107, (by omega)⟩, ?_⟩
    rw [F116.get (t := 10) rfl, hL49.get (t := 10) rfl]; simp [intOf] <;> omega
  · skip
    refine wp_cond_false (c_false F59 rfl (decide_eq_false hc60)) ?_
    refine wp_exit ?_
    refine exit_then ?_
    refine exit_then ?_
    refine exit_here ?_
    refine hK33 _ _ ?_
    clear hK33
    refine wp_seq_k (fun K122 hK122 => ?_)
    refine wp_region_lit ?_
    refine qv 0 (.agg (u32Vals (List.replicate 16 0)).toArray) F59 rfl (rn_build parts0 (by kernel_rfl)) fun _ F124 => ?_; clear F59
    refine wpl_op (i := 1) rfl (o_new (fun g => (.pointer (some ⟨g, 0, none⟩))) (u32Vals (List.replicate 16 0)) 89 F124 rfl rfl rfl rfl (by kernel_rfl) ?_)
    intro g125 w126 a131 F132 z129 z130 b127 hx128; clear F124
    refine wpl_op (i := 2) rfl (o_store (cells := (u32Vals (List.replicate 16 0))) F132 rfl rfl rfl rfl (F132.get rfl) (F132.get rfl) b127 (inf89.trans (congrArg some (u32Vals_len (show List.length (List.replicate 16 0) = _ from List.length_replicate)).symm)) ((u32Vals_len (show List.length (List.replicate 16 0) = _ from List.length_replicate)).trans (u32Vals_len (show List.length (List.replicate 16 0) = _ from List.length_replicate)).symm) (u32Vals_one _) ?_)
    intro w133 b134 hg135; have z136 := hg135.size
    refine wpList_nil ?_
    refine hK122 _ _ ?_
    clear hK122
    refine wp_seq_k (fun K137 hK137 => ?_)
    refine wp_region_lit ?_
    refine wpl_op (i := 0) rfl (o_call F132 rfl rfl rfl rfl (rn_call (args0 ) rfl (by kernel_rfl)) (rinitial_any _) ?_)
    rintro _ w138 ⟨rfl, hx139⟩
    refine ⟨_, rfl, ?_⟩; intro a140 F141; clear F132; have z142 := hx139.size
    refine wpl_op (i := 1) rfl (o_new (fun g => (.pointer (some ⟨g, 0, none⟩))) (u32Vals (List.replicate 8 0)) 80 F141 rfl rfl rfl rfl (by kernel_rfl) ?_)
    intro g143 w144 a149 F150 z147 z148 b145 hx146; clear F141
    refine wpl_op (i := 2) rfl (o_store (cells := (u32Vals iv)) F150 rfl rfl rfl rfl (F150.get rfl) (F150.get rfl) b145 (inf80.trans (congrArg some (u32Vals_len iv_len).symm)) ((u32Vals_len (show List.length (List.replicate 8 0) = _ from List.length_replicate)).trans (u32Vals_len iv_len).symm) (u32Vals_one _) ?_)
    intro w151 b152 hg153; have z154 := hg153.size
    refine wpList_nil ?_
    refine hK137 _ _ ?_
    clear hK137
    refine wp_seq_k (fun K155 hK155 => ?_)
    refine wp_seq_k (fun K156 hK156 => ?_)
    refine wp_region_lit ?_
    refine qv 0 (.int .i64 0) F150 rfl (rn_assign rfl) fun _ F158 => ?_; clear F150
    refine wpList_nil ?_
    refine hK156 _ _ ?_
    clear hK156
    refine wp_block ?_
    have hmw : m = words b := words_eq hp44 (by omega)
    have b159 := (((((b45.ext hx128).grownN hg135 (by omega)).ext hx139).ext hx146).grownN hg153 (by omega))
    have b160 := (((((b46.ext hx128).grownN hg135 (by omega)).ext hx139).ext hx146).grownN hg153 (by omega))
    have b161 := (((((b47.ext hx128).grownN hg135 (by omega)).ext hx139).ext hx146).grownN hg153 (by omega))
    have b162 := (((b134.ext hx139).ext hx146).grownN hg153 (by omega))
    refine wp_loop (fun a' W => ∃ (k1 : Nat) (v0 : List UInt32), Sl 182 [(0, (.agg (u32Vals h).toArray)), (1, (.slice A 64 c)), (2, (.int .u64 (n.toNat : Nat))), (3, (.bool last)), (4, (.pointer (some ⟨g2, 0, none⟩))), (8, (.pointer (some ⟨g10, 0, none⟩))), (9, (.pointer (some ⟨g21, 0, none⟩))), (10, (.int .i64 (k : Nat))), (22, (.bool (decide (((k : Nat) : Int) < (64 : Int))))), (11, (.pointer (some ⟨g125, 0, none⟩))), (12, (.pointer (some ⟨g143, 0, none⟩))), (13, (.int .i64 (k1 : Nat)))] a' ∧ k1 ≤ 8 ∧ v0 = vTo h k1 ∧ Ext w W ∧ Blk W g2 80 (u32Vals h) ∧ Blk W g10 80 (u32Vals (List.replicate 8 0)) ∧ Blk W g21 89 (u32Vals m) ∧ Blk W g125 89 (u32Vals v0) ∧ Blk W g143 80 (u32Vals iv) ∧ w151.heap.size ≤ W.heap.size) (fun a' _ => 8 - (intOf (a'.eval (.tmp 13))).toNat) ⟨0, (List.replicate 16 0), ((((((((((((F158.nil.cons (q_get F158 (t := 13) rfl (by first | rfl | (congr 1; omega) | (congr 1; done)))).cons (q_get F158 (t := 12) rfl rfl)).cons (q_get F158 (t := 11) rfl rfl)).cons (q_get F158 (t := 22) rfl rfl)).cons (q_get F158 (t := 10) rfl rfl)).cons (q_get F158 (t := 9) rfl rfl)).cons (q_get F158 (t := 8) rfl rfl)).cons (q_get F158 (t := 4) rfl rfl)).cons (q_get F158 (t := 3) rfl rfl)).cons (q_get F158 (t := 2) rfl rfl)).cons (q_get F158 (t := 1) rfl rfl)).cons (q_get F158 (t := 0) rfl rfl)), (by omega), rfl, (((((((Ext.refl w).trans hx42).trans hx128).grownN hg135 (by omega)).trans hx139).trans hx146).grownN hg153 (by omega)), b159, b160, b161, b162, b152, (Nat.le_refl _)⟩ ?_
    clear F158
    rintro a163 w164 ⟨k1, v0, F165, hp167, hp168, hx166, b169, b170, b171, b172, b173, hf174⟩
    have hL175 := F165
    have z176 := hx166.size
    have z177 := b169.lt
    have z178 := b170.lt
    have z179 := b171.lt
    have z180 := b172.lt
    have z181 := b173.lt
    have hvl0 : v0.length = 16 := by rw [hp168]; exact vTo_len hh (by omega)
    refine wp_seq_k (fun K182 hK182 => ?_)
    refine wp_seq_k (fun K183 hK183 => ?_)
    refine wp_region_lit ?_
    refine qv 0 (.int .i64 (k1 : Nat)) F165 rfl (rn_move (F165.get rfl)) fun _ F185 => ?_; clear F165
    refine qv 1 (.bool (decide (((k1 : Nat) : Int) < (8 : Int)))) F185 rfl (rn_lss (F185.get rfl) rfl) fun _ F187 => ?_; clear F185
    refine wpList_nil ?_
    refine hK183 _ _ ?_
    clear hK183
    by_cases hc188 : ((k1 : Nat) : Int) < (8 : Int)
    · skip
      refine wp_cond_true (c_true F187 rfl (decide_eq_true hc188)) ?_
      refine wp_skip ?_
      refine hK182 _ _ ?_
      clear hK182
      refine wp_seq_k (fun K189 hK189 => ?_)
      refine wp_block ?_
      refine wp_seq_k (fun K190 hK190 => ?_)
      refine wp_region_lit ?_
      refine qv 0 (.int .i64 (k1 : Nat)) F187 rfl (rn_move (F187.get rfl)) fun _ F192 => ?_; clear F187
      refine qv 1 (.int .i64 (k1 : Nat)) F192 rfl (rn_move (F192.get rfl)) fun _ F194 => ?_; clear F192
      refine qv 2 (.pointer (some ⟨g2, 0 + k1, none⟩)) F194 rfl (rn_indexArr Tryd.underlying80 inf79 (F194.get rfl) (F194.get rfl) (by omega : (0 : Int) ≤ (k1 : Nat)) (by omega : ((k1 : Nat) : Int) < ((8 : Nat) : Int))) fun _ F196 => ?_; clear F194
      refine qv 3 (.int .u32 ((h.getD k1 0).toNat : Nat)) F196 rfl (rn_load (isAgg_no Tryd.underlying79 rfl) (F196.get rfl) (blk_word b169 (by omega) (by have := (show List.length h = _ from hh); omega))) fun _ F198 => ?_; clear F196
      refine qv 4 (.pointer (some ⟨g125, 0 + k1, none⟩)) F198 rfl (rn_indexArr Tryd.underlying89 inf79 (F198.get rfl) (F198.get rfl) (by omega : (0 : Int) ≤ (k1 : Nat)) (by omega : ((k1 : Nat) : Int) < ((16 : Nat) : Int))) fun _ F200 => ?_; clear F198
      refine wpl_op (i := 5) rfl (o_store1 (new := (u32Vals (v0.set k1 (h.getD k1 0)))) F200 rfl rfl rfl rfl (F200.get rfl) (F200.get rfl) b172 inf79 (by rw [u32Vals_len hvl0]; omega) rfl (u32Vals_set (by omega)) ?_)
      intro w201 b202 hg203; have z204 := hg203.size
      refine wpList_nil ?_
      refine hK190 _ _ ?_
      clear hK190
      have F205 := (((((((((((((F200.nil.c F200 45 rfl).c F200 13 rfl).c F200 12 rfl).c F200 11 rfl).c F200 22 rfl).c F200 10 rfl).c F200 9 rfl).c F200 8 rfl).c F200 4 rfl).c F200 3 rfl).c F200 2 rfl).c F200 1 rfl).c F200 0 rfl)
      clear F200
      refine wp_region_lit ?_
      refine qv 0 (.int .i64 (k1 : Nat)) F205 rfl (rn_move (F205.get rfl)) fun _ F207 => ?_; clear F205
      refine qv 1 (.int .i64 (8 + k1 : Nat)) F207 rfl (rn_addN (a := 8) (b := k1) rfl (F207.get rfl) (by omega)) fun _ F209 => ?_; clear F207
      refine qv 2 (.int .i64 (k1 : Nat)) F209 rfl (rn_move (F209.get rfl)) fun _ F211 => ?_; clear F209
      refine qv 3 (.pointer (some ⟨g143, 0 + k1, none⟩)) F211 rfl (rn_indexArr Tryd.underlying80 inf79 (F211.get rfl) (F211.get rfl) (by omega : (0 : Int) ≤ (k1 : Nat)) (by omega : ((k1 : Nat) : Int) < ((8 : Nat) : Int))) fun _ F213 => ?_; clear F211
      have b214 := (b173.grownN hg203 (by omega))
      refine qv 4 (.int .u32 ((iv.getD k1 0).toNat : Nat)) F213 rfl (rn_load (isAgg_no Tryd.underlying79 rfl) (F213.get rfl) (blk_word b214 (by omega) (by have := (show List.length iv = _ from iv_len); omega))) fun _ F216 => ?_; clear F213
      refine qv 5 (.pointer (some ⟨g125, 0 + (8 + k1), none⟩)) F216 rfl (rn_indexArr Tryd.underlying89 inf79 (F216.get rfl) (F216.get rfl) (by omega : (0 : Int) ≤ (8 + k1 : Nat)) (by omega : ((8 + k1 : Nat) : Int) < ((16 : Nat) : Int))) fun _ F218 => ?_; clear F216
      refine wpl_op (i := 6) rfl (o_store1 (new := (u32Vals ((v0.set k1 (h.getD k1 0)).set (8 + k1) (iv.getD k1 0)))) F218 rfl rfl rfl rfl (F218.get rfl) (F218.get rfl) b202 inf79 (by rw [u32Vals_len (show List.length (v0.set k1 (h.getD k1 0)) = _ from List.length_set.trans hvl0)]; omega) rfl (u32Vals_set (by omega)) ?_)
      intro w219 b220 hg221; have z222 := hg221.size
      refine wpList_nil ?_
      refine hK189 _ _ ?_
      clear hK189
      have F223 := (((((((((((((F218.nil.c F218 45 rfl).c F218 13 rfl).c F218 12 rfl).c F218 11 rfl).c F218 22 rfl).c F218 10 rfl).c F218 9 rfl).c F218 8 rfl).c F218 4 rfl).c F218 3 rfl).c F218 2 rfl).c F218 1 rfl).c F218 0 rfl)
      clear F218
      refine wp_region_lit ?_
      refine qv 0 (.int .i64 (k1 : Nat)) F223 rfl (rn_move (F223.get rfl)) fun _ F225 => ?_; clear F223
      refine qv 1 (.int .i64 (k1 + 1 : Nat)) F225 rfl (rn_addN (a := k1) (b := 1) (F225.get rfl) rfl (by omega)) fun _ F227 => ?_; clear F225
      refine qv 2 (.int .i64 (k1 + 1 : Nat)) F227 rfl (rn_assign (F227.get rfl)) fun _ F229 => ?_; clear F227
      refine wpList_nil ?_
      obtain ⟨v230, e231⟩ : ∃ z, z = (v0.set k1 (h.getD k1 0)).set (8 + k1) (iv.getD k1 0) := ⟨_, rfl⟩
      have hl232 : v230.length = 16 := (congrArg List.length e231).trans (show List.length ((v0.set k1 (h.getD k1 0)).set (8 + k1) (iv.getD k1 0)) = _ from List.length_set.trans (show List.length (v0.set k1 (h.getD k1 0)) = _ from List.length_set.trans hvl0))
      rw [← e231] at b220
      have b233 := ((b169.grownN hg203 (by omega)).grownN hg221 (by omega))
      have b234 := ((b170.grownN hg203 (by omega)).grownN hg221 (by omega))
      have b235 := ((b171.grownN hg203 (by omega)).grownN hg221 (by omega))
      have b236 := (b214.grownN hg221 (by omega))
      refine ⟨⟨(k1 + 1), v230, ((((((((((((F229.nil.cons (q_get F229 (t := 13) rfl (by first | rfl | (congr 1; omega) | (congr 1; done)))).cons (q_get F229 (t := 12) rfl rfl)).cons (q_get F229 (t := 11) rfl rfl)).cons (q_get F229 (t := 22) rfl rfl)).cons (q_get F229 (t := 10) rfl rfl)).cons (q_get F229 (t := 9) rfl rfl)).cons (q_get F229 (t := 8) rfl rfl)).cons (q_get F229 (t := 4) rfl rfl)).cons (q_get F229 (t := 3) rfl rfl)).cons (q_get F229 (t := 2) rfl rfl)).cons (q_get F229 (t := 1) rfl rfl)).cons (q_get F229 (t := 0) rfl rfl)), (by omega), (vTo_step hh (by omega) hp168 e231), ((((Ext.refl w).trans hx166).grownN hg203 (by omega)).grownN hg221 (by omega)), b233, b234, b235, b220, b236, (by omega)⟩, ?_⟩
      rw [F229.get (t := 13) rfl, hL175.get (t := 13) rfl]; simp [intOf] <;> omega
    · skip
      refine wp_cond_false (c_false F187 rfl (decide_eq_false hc188)) ?_
      refine wp_exit ?_
      refine exit_then ?_
      refine exit_then ?_
      refine exit_here ?_
      refine hK155 _ _ ?_
      clear hK155
      refine wp_seq_k (fun K237 hK237 => ?_)
      refine wp_region_lit ?_
      refine qv 0 (.pointer (some ⟨g125, 0 + 12, none⟩)) F187 rfl (rn_indexArr Tryd.underlying89 inf79 (F187.get rfl) rfl (by omega : (0 : Int) ≤ 12) (by omega : (12 : Int) < ((16 : Nat) : Int))) fun _ F239 => ?_; clear F187
      refine qv 1 (.int .u32 ((v0.getD 12 0).toNat : Nat)) F239 rfl (rn_load (isAgg_no Tryd.underlying79 rfl) (F239.get rfl) (blk_word b172 (by omega) (by have := (show List.length v0 = _ from hvl0); omega))) fun _ F241 => ?_; clear F239
      refine qv 2 (.int .u64 (n.toNat : Nat)) F241 rfl (rn_move (F241.get rfl)) fun _ F243 => ?_; clear F241
      refine qv 3 (.int .u32 (n.toUInt32.toNat : Nat)) F243 rfl (rn_convW Tryd.underlying81 Tryd.underlying79 (F243.get rfl) (cv64_32 n)) fun _ F245 => ?_; clear F243
      refine qv 4 (.int .u32 (((v0.getD 12 0) ^^^ n.toUInt32).toNat : Nat)) F245 rfl (rn_xor32 (a := (v0.getD 12 0)) (b := n.toUInt32) (F245.get rfl) (F245.get rfl)) fun _ F247 => ?_; clear F245
      refine qv 5 (.pointer (some ⟨g125, 0 + 12, none⟩)) F247 rfl (rn_indexArr Tryd.underlying89 inf79 (F247.get rfl) rfl (by omega : (0 : Int) ≤ 12) (by omega : (12 : Int) < ((16 : Nat) : Int))) fun _ F249 => ?_; clear F247
      refine wpl_op (i := 6) rfl (o_store1 (new := (u32Vals (v0.set 12 ((v0.getD 12 0) ^^^ n.toUInt32)))) F249 rfl rfl rfl rfl (F249.get rfl) (F249.get rfl) b172 inf79 (by rw [u32Vals_len hvl0]; omega) rfl (u32Vals_set (by omega)) ?_)
      intro w250 b251 hg252; have z253 := hg252.size
      refine wpList_nil ?_
      refine hK237 _ _ ?_
      clear hK237
      have F254 := (((((((((((((F249.nil.c F249 45 rfl).c F249 13 rfl).c F249 12 rfl).c F249 11 rfl).c F249 22 rfl).c F249 10 rfl).c F249 9 rfl).c F249 8 rfl).c F249 4 rfl).c F249 3 rfl).c F249 2 rfl).c F249 1 rfl).c F249 0 rfl)
      clear F249
      refine wp_seq_k (fun K255 hK255 => ?_)
      refine wp_region_lit ?_
      refine qv 0 (.pointer (some ⟨g125, 0 + 13, none⟩)) F254 rfl (rn_indexArr Tryd.underlying89 inf79 (F254.get rfl) rfl (by omega : (0 : Int) ≤ 13) (by omega : (13 : Int) < ((16 : Nat) : Int))) fun _ F257 => ?_; clear F254
      refine qv 1 (.int .u32 (((v0.set 12 ((v0.getD 12 0) ^^^ n.toUInt32)).getD 13 0).toNat : Nat)) F257 rfl (rn_load (isAgg_no Tryd.underlying79 rfl) (F257.get rfl) (blk_word b251 (by omega) (by have := (show List.length (v0.set 12 ((v0.getD 12 0) ^^^ n.toUInt32)) = _ from (show List.length (v0.set 12 ((v0.getD 12 0) ^^^ n.toUInt32)) = _ from List.length_set.trans hvl0)); omega))) fun _ F259 => ?_; clear F257
      refine qv 2 (.int .u64 (n.toNat : Nat)) F259 rfl (rn_move (F259.get rfl)) fun _ F261 => ?_; clear F259
      refine qv 3 (.int .u64 ((n >>> UInt64.ofNat 32).toNat : Nat)) F261 rfl (rn_shr64 (a := n) (n := 32) (F261.get rfl) rfl (by omega)) fun _ F263 => ?_; clear F261
      refine qv 4 (.int .u32 (((n >>> UInt64.ofNat 32).toUInt32).toNat : Nat)) F263 rfl (rn_convW Tryd.underlying81 Tryd.underlying79 (F263.get rfl) (cv64_32 (n >>> UInt64.ofNat 32))) fun _ F265 => ?_; clear F263
      refine qv 5 (.int .u32 ((((v0.set 12 ((v0.getD 12 0) ^^^ n.toUInt32)).getD 13 0) ^^^ ((n >>> UInt64.ofNat 32).toUInt32)).toNat : Nat)) F265 rfl (rn_xor32 (a := ((v0.set 12 ((v0.getD 12 0) ^^^ n.toUInt32)).getD 13 0)) (b := ((n >>> UInt64.ofNat 32).toUInt32)) (F265.get rfl) (F265.get rfl)) fun _ F267 => ?_; clear F265
      refine qv 6 (.pointer (some ⟨g125, 0 + 13, none⟩)) F267 rfl (rn_indexArr Tryd.underlying89 inf79 (F267.get rfl) rfl (by omega : (0 : Int) ≤ 13) (by omega : (13 : Int) < ((16 : Nat) : Int))) fun _ F269 => ?_; clear F267
      refine wpl_op (i := 7) rfl (o_store1 (new := (u32Vals ((v0.set 12 ((v0.getD 12 0) ^^^ n.toUInt32)).set 13 (((v0.set 12 ((v0.getD 12 0) ^^^ n.toUInt32)).getD 13 0) ^^^ ((n >>> UInt64.ofNat 32).toUInt32))))) F269 rfl rfl rfl rfl (F269.get rfl) (F269.get rfl) b251 inf79 (by rw [u32Vals_len (show List.length (v0.set 12 ((v0.getD 12 0) ^^^ n.toUInt32)) = _ from List.length_set.trans hvl0)]; omega) rfl (u32Vals_set (by omega)) ?_)
      intro w270 b271 hg272; have z273 := hg272.size
      refine wpList_nil ?_
      refine hK255 _ _ ?_
      clear hK255
      have F274 := (((((((((((((F269.nil.c F269 45 rfl).c F269 13 rfl).c F269 12 rfl).c F269 11 rfl).c F269 22 rfl).c F269 10 rfl).c F269 9 rfl).c F269 8 rfl).c F269 4 rfl).c F269 3 rfl).c F269 2 rfl).c F269 1 rfl).c F269 0 rfl)
      clear F269
      refine wp_seq_k (fun K275 hK275 => ?_)
      refine wp_seq_k (fun K276 hK276 => ?_)
      refine wp_region_lit ?_
      refine qv 0 (.bool last) F274 rfl (rn_move (F274.get rfl)) fun _ F278 => ?_; clear F274
      refine wpList_nil ?_
      refine hK276 _ _ ?_
      clear hK276
      rcases Bool.eq_false_or_eq_true last with hc279 | hc279
      · skip
        refine wp_cond_true (c_true F278 rfl hc279) ?_
        refine wp_region_lit ?_
        refine qv 0 (.pointer (some ⟨g125, 0 + 14, none⟩)) F278 rfl (rn_indexArr Tryd.underlying89 inf79 (F278.get rfl) rfl (by omega : (0 : Int) ≤ 14) (by omega : (14 : Int) < ((16 : Nat) : Int))) fun _ F281 => ?_; clear F278
        refine qv 1 (.int .u32 ((((v0.set 12 ((v0.getD 12 0) ^^^ n.toUInt32)).set 13 (((v0.set 12 ((v0.getD 12 0) ^^^ n.toUInt32)).getD 13 0) ^^^ ((n >>> UInt64.ofNat 32).toUInt32))).getD 14 0).toNat : Nat)) F281 rfl (rn_load (isAgg_no Tryd.underlying79 rfl) (F281.get rfl) (blk_word b271 (by omega) (by have := (show List.length ((v0.set 12 ((v0.getD 12 0) ^^^ n.toUInt32)).set 13 (((v0.set 12 ((v0.getD 12 0) ^^^ n.toUInt32)).getD 13 0) ^^^ ((n >>> UInt64.ofNat 32).toUInt32))) = _ from (show List.length ((v0.set 12 ((v0.getD 12 0) ^^^ n.toUInt32)).set 13 (((v0.set 12 ((v0.getD 12 0) ^^^ n.toUInt32)).getD 13 0) ^^^ ((n >>> UInt64.ofNat 32).toUInt32))) = _ from List.length_set.trans (show List.length (v0.set 12 ((v0.getD 12 0) ^^^ n.toUInt32)) = _ from List.length_set.trans hvl0))); omega))) fun _ F283 => ?_; clear F281
        refine qv 2 (.int .u32 (((((v0.set 12 ((v0.getD 12 0) ^^^ n.toUInt32)).set 13 (((v0.set 12 ((v0.getD 12 0) ^^^ n.toUInt32)).getD 13 0) ^^^ ((n >>> UInt64.ofNat 32).toUInt32))).getD 14 0) ^^^ (4294967295 : UInt32)).toNat : Nat)) F283 rfl (rn_xor32 (a := (((v0.set 12 ((v0.getD 12 0) ^^^ n.toUInt32)).set 13 (((v0.set 12 ((v0.getD 12 0) ^^^ n.toUInt32)).getD 13 0) ^^^ ((n >>> UInt64.ofNat 32).toUInt32))).getD 14 0)) (b := (4294967295 : UInt32)) (F283.get rfl) rfl) fun _ F285 => ?_; clear F283
        refine qv 3 (.pointer (some ⟨g125, 0 + 14, none⟩)) F285 rfl (rn_indexArr Tryd.underlying89 inf79 (F285.get rfl) rfl (by omega : (0 : Int) ≤ 14) (by omega : (14 : Int) < ((16 : Nat) : Int))) fun _ F287 => ?_; clear F285
        refine wpl_op (i := 4) rfl (o_store1 (new := (u32Vals (((v0.set 12 ((v0.getD 12 0) ^^^ n.toUInt32)).set 13 (((v0.set 12 ((v0.getD 12 0) ^^^ n.toUInt32)).getD 13 0) ^^^ ((n >>> UInt64.ofNat 32).toUInt32))).set 14 ((((v0.set 12 ((v0.getD 12 0) ^^^ n.toUInt32)).set 13 (((v0.set 12 ((v0.getD 12 0) ^^^ n.toUInt32)).getD 13 0) ^^^ ((n >>> UInt64.ofNat 32).toUInt32))).getD 14 0) ^^^ (4294967295 : UInt32))))) F287 rfl rfl rfl rfl (F287.get rfl) (F287.get rfl) b271 inf79 (by rw [u32Vals_len (show List.length ((v0.set 12 ((v0.getD 12 0) ^^^ n.toUInt32)).set 13 (((v0.set 12 ((v0.getD 12 0) ^^^ n.toUInt32)).getD 13 0) ^^^ ((n >>> UInt64.ofNat 32).toUInt32))) = _ from List.length_set.trans (show List.length (v0.set 12 ((v0.getD 12 0) ^^^ n.toUInt32)) = _ from List.length_set.trans hvl0))]; omega) rfl (u32Vals_set (by omega)) ?_)
        intro w288 b289 hg290; have z291 := hg290.size
        refine wpList_nil ?_
        refine hK275 _ _ ?_
        clear hK275
        have F292 := ((((((((((((((F287.nil.c F287 72 rfl).c F287 45 rfl).c F287 13 rfl).c F287 12 rfl).c F287 11 rfl).c F287 22 rfl).c F287 10 rfl).c F287 9 rfl).c F287 8 rfl).c F287 4 rfl).c F287 3 rfl).c F287 2 rfl).c F287 1 rfl).c F287 0 rfl)
        clear F287
        refine wp_seq_k (fun K293 hK293 => ?_)
        refine wp_region_lit ?_
        refine wpl_op (i := 0) rfl (o_call F292 rfl rfl rfl rfl (rn_call (args0 ) rfl (by kernel_rfl)) (rperm_any _) ?_)
        rintro _ w294 ⟨rfl, hx295⟩
        refine ⟨_, rfl, ?_⟩; intro a296 F297; clear F292; have z298 := hx295.size
        refine wpl_op (i := 1) rfl (o_new (fun g => (.pointer (some ⟨g, 0, none⟩))) (intVals (List.replicate 160 0)) 98 F297 rfl rfl rfl rfl (by kernel_rfl) ?_)
        intro g299 w300 a305 F306 z303 z304 b301 hx302; clear F297
        refine wpl_op (i := 2) rfl (o_store (cells := (intVals permI)) F306 rfl rfl rfl rfl (F306.get rfl) (F306.get rfl) b301 (inf98.trans (congrArg some (intVals_len permI_len).symm)) ((intVals_len (show List.length (List.replicate 160 0) = _ from List.length_replicate)).trans (intVals_len permI_len).symm) (intVals_one _) ?_)
        intro w307 b308 hg309; have z310 := hg309.size
        refine wpList_nil ?_
        refine hK293 _ _ ?_
        clear hK293
        refine wp_seq_k (fun K311 hK311 => ?_)
        refine wp_seq_k (fun K312 hK312 => ?_)
        refine wp_region_lit ?_
        refine qv 0 (.int .i64 0) F306 rfl (rn_assign rfl) fun _ F314 => ?_; clear F306
        refine wpList_nil ?_
        refine hK312 _ _ ?_
        clear hK312
        refine wp_block ?_
        have hv0 : v0 = h ++ iv := vTo_done hh (by rw [hp168, show k1 = 8 by omega])
        have b318 := (((b289.ext hx295).ext hx302).grownN hg309 (by omega))
        obtain ⟨v315, e316⟩ : ∃ z, z = ((v0.set 12 ((v0.getD 12 0) ^^^ n.toUInt32)).set 13 (((v0.set 12 ((v0.getD 12 0) ^^^ n.toUInt32)).getD 13 0) ^^^ ((n >>> UInt64.ofNat 32).toUInt32))).set 14 ((((v0.set 12 ((v0.getD 12 0) ^^^ n.toUInt32)).set 13 (((v0.set 12 ((v0.getD 12 0) ^^^ n.toUInt32)).getD 13 0) ^^^ ((n >>> UInt64.ofNat 32).toUInt32))).getD 14 0) ^^^ (4294967295 : UInt32)) := ⟨_, rfl⟩
        have hl317 : v315.length = 16 := (congrArg List.length e316).trans (show List.length (((v0.set 12 ((v0.getD 12 0) ^^^ n.toUInt32)).set 13 (((v0.set 12 ((v0.getD 12 0) ^^^ n.toUInt32)).getD 13 0) ^^^ ((n >>> UInt64.ofNat 32).toUInt32))).set 14 ((((v0.set 12 ((v0.getD 12 0) ^^^ n.toUInt32)).set 13 (((v0.set 12 ((v0.getD 12 0) ^^^ n.toUInt32)).getD 13 0) ^^^ ((n >>> UInt64.ofNat 32).toUInt32))).getD 14 0) ^^^ (4294967295 : UInt32))) = _ from List.length_set.trans (show List.length ((v0.set 12 ((v0.getD 12 0) ^^^ n.toUInt32)).set 13 (((v0.set 12 ((v0.getD 12 0) ^^^ n.toUInt32)).getD 13 0) ^^^ ((n >>> UInt64.ofNat 32).toUInt32))) = _ from List.length_set.trans (show List.length (v0.set 12 ((v0.getD 12 0) ^^^ n.toUInt32)) = _ from List.length_set.trans hvl0)))
        rw [← e316] at b318
        have hv1 : v315 = begin_ h n last := by rw [e316, hv0, hc279]; rw [xor_all]; exact begin_true
        have b319 := ((((((b169.grownN hg252 (by omega)).grownN hg272 (by omega)).grownN hg290 (by omega)).ext hx295).ext hx302).grownN hg309 (by omega))
        have b320 := ((((((b170.grownN hg252 (by omega)).grownN hg272 (by omega)).grownN hg290 (by omega)).ext hx295).ext hx302).grownN hg309 (by omega))
        have b321 := ((((((b171.grownN hg252 (by omega)).grownN hg272 (by omega)).grownN hg290 (by omega)).ext hx295).ext hx302).grownN hg309 (by omega))
        have b322 := ((((((b173.grownN hg252 (by omega)).grownN hg272 (by omega)).grownN hg290 (by omega)).ext hx295).ext hx302).grownN hg309 (by omega))
        refine wp_loop (fun a' W => ∃ (r : Nat) (v : List UInt32), Sl 182 [(0, (.agg (u32Vals h).toArray)), (1, (.slice A 64 c)), (2, (.int .u64 (n.toNat : Nat))), (3, (.bool last)), (4, (.pointer (some ⟨g2, 0, none⟩))), (8, (.pointer (some ⟨g10, 0, none⟩))), (9, (.pointer (some ⟨g21, 0, none⟩))), (10, (.int .i64 (k : Nat))), (22, (.bool (decide (((k : Nat) : Int) < (64 : Int))))), (11, (.pointer (some ⟨g125, 0, none⟩))), (12, (.pointer (some ⟨g143, 0, none⟩))), (13, (.int .i64 (k1 : Nat))), (45, (.bool (decide (((k1 : Nat) : Int) < (8 : Int))))), (72, (.bool last)), (14, (.pointer (some ⟨g299, 0, none⟩))), (15, (.int .i64 (r : Nat)))] a' ∧ r ≤ 10 ∧ v = roundTo m v315 r ∧ Ext w W ∧ Blk W g2 80 (u32Vals h) ∧ Blk W g10 80 (u32Vals (List.replicate 8 0)) ∧ Blk W g21 89 (u32Vals m) ∧ Blk W g125 89 (u32Vals v) ∧ Blk W g143 80 (u32Vals iv) ∧ Blk W g299 98 (intVals permI) ∧ w307.heap.size ≤ W.heap.size) (fun a' _ => 10 - (intOf (a'.eval (.tmp 15))).toNat) ⟨0, v315, ((((((((((((((((F314.nil.cons (q_get F314 (t := 15) rfl (by first | rfl | (congr 1; omega) | (congr 1; done)))).cons (q_get F314 (t := 14) rfl rfl)).cons (q_get F314 (t := 72) rfl rfl)).cons (q_get F314 (t := 45) rfl rfl)).cons (q_get F314 (t := 13) rfl rfl)).cons (q_get F314 (t := 12) rfl rfl)).cons (q_get F314 (t := 11) rfl rfl)).cons (q_get F314 (t := 22) rfl rfl)).cons (q_get F314 (t := 10) rfl rfl)).cons (q_get F314 (t := 9) rfl rfl)).cons (q_get F314 (t := 8) rfl rfl)).cons (q_get F314 (t := 4) rfl rfl)).cons (q_get F314 (t := 3) rfl rfl)).cons (q_get F314 (t := 2) rfl rfl)).cons (q_get F314 (t := 1) rfl rfl)).cons (q_get F314 (t := 0) rfl rfl)), (by omega), rfl, ((((((((Ext.refl w).trans hx166).grownN hg252 (by omega)).grownN hg272 (by omega)).grownN hg290 (by omega)).trans hx295).trans hx302).grownN hg309 (by omega)), b319, b320, b321, b318, b322, b308, (Nat.le_refl _)⟩ ?_
        clear F314
        rintro a323 w324 ⟨r, v, F325, hp327, hp328, hx326, b329, b330, b331, b332, b333, b334, hf335⟩
        have hL336 := F325
        have z337 := hx326.size
        have z338 := b329.lt
        have z339 := b330.lt
        have z340 := b331.lt
        have z341 := b332.lt
        have z342 := b333.lt
        have z343 := b334.lt
        have hvl : v.length = 16 := by rw [hp328]; exact roundTo_len hl317
        refine wp_seq_k (fun K344 hK344 => ?_)
        refine wp_seq_k (fun K345 hK345 => ?_)
        refine wp_region_lit ?_
        refine qv 0 (.int .i64 (r : Nat)) F325 rfl (rn_move (F325.get rfl)) fun _ F347 => ?_; clear F325
        refine qv 1 (.bool (decide (((r : Nat) : Int) < (10 : Int)))) F347 rfl (rn_lss (F347.get rfl) rfl) fun _ F349 => ?_; clear F347
        refine wpList_nil ?_
        refine hK345 _ _ ?_
        clear hK345
        by_cases hc350 : ((r : Nat) : Int) < (10 : Int)
        · skip
          refine wp_cond_true (c_true F349 rfl (decide_eq_true hc350)) ?_
          refine wp_skip ?_
          refine hK344 _ _ ?_
          clear hK344
          refine wp_seq_k (fun K351 hK351 => ?_)
          refine wp_block ?_
          refine wp_seq_k (fun K352 hK352 => ?_)
          refine wp_region_lit ?_
          refine qv 0 (.int .i64 0) F349 rfl (rn_assign rfl) fun _ F354 => ?_; clear F349
          refine wpList_nil ?_
          refine hK352 _ _ ?_
          clear hK352
          refine wp_block ?_
          refine wp_loop (fun a' W => ∃ (i2 : Nat) (v2 : List UInt32), Sl 182 [(0, (.agg (u32Vals h).toArray)), (1, (.slice A 64 c)), (2, (.int .u64 (n.toNat : Nat))), (3, (.bool last)), (4, (.pointer (some ⟨g2, 0, none⟩))), (8, (.pointer (some ⟨g10, 0, none⟩))), (9, (.pointer (some ⟨g21, 0, none⟩))), (10, (.int .i64 (k : Nat))), (22, (.bool (decide (((k : Nat) : Int) < (64 : Int))))), (11, (.pointer (some ⟨g125, 0, none⟩))), (12, (.pointer (some ⟨g143, 0, none⟩))), (13, (.int .i64 (k1 : Nat))), (45, (.bool (decide (((k1 : Nat) : Int) < (8 : Int))))), (72, (.bool last)), (14, (.pointer (some ⟨g299, 0, none⟩))), (15, (.int .i64 (r : Nat))), (79, (.bool (decide (((r : Nat) : Int) < (10 : Int))))), (16, (.int .i64 (i2 : Nat)))] a' ∧ i2 ≤ 8 ∧ v2 = mixTo m (permRow r) v i2 ∧ Ext w W ∧ Blk W g2 80 (u32Vals h) ∧ Blk W g10 80 (u32Vals (List.replicate 8 0)) ∧ Blk W g21 89 (u32Vals m) ∧ Blk W g125 89 (u32Vals v2) ∧ Blk W g143 80 (u32Vals iv) ∧ Blk W g299 98 (intVals permI) ∧ w324.heap.size ≤ W.heap.size) (fun a' _ => 8 - (intOf (a'.eval (.tmp 16))).toNat) ⟨0, v, ((((((((((((((((((F354.nil.cons (q_get F354 (t := 16) rfl (by first | rfl | (congr 1; omega) | (congr 1; done)))).cons (q_get F354 (t := 79) rfl rfl)).cons (q_get F354 (t := 15) rfl rfl)).cons (q_get F354 (t := 14) rfl rfl)).cons (q_get F354 (t := 72) rfl rfl)).cons (q_get F354 (t := 45) rfl rfl)).cons (q_get F354 (t := 13) rfl rfl)).cons (q_get F354 (t := 12) rfl rfl)).cons (q_get F354 (t := 11) rfl rfl)).cons (q_get F354 (t := 22) rfl rfl)).cons (q_get F354 (t := 10) rfl rfl)).cons (q_get F354 (t := 9) rfl rfl)).cons (q_get F354 (t := 8) rfl rfl)).cons (q_get F354 (t := 4) rfl rfl)).cons (q_get F354 (t := 3) rfl rfl)).cons (q_get F354 (t := 2) rfl rfl)).cons (q_get F354 (t := 1) rfl rfl)).cons (q_get F354 (t := 0) rfl rfl)), (by omega), rfl, ((Ext.refl w).trans hx326), b329, b330, b331, b332, b333, b334, (Nat.le_refl _)⟩ ?_
          clear F354
          rintro a355 w356 ⟨i2, v2, F357, hp359, hp360, hx358, b361, b362, b363, b364, b365, b366, hf367⟩
          have hL368 := F357
          have z369 := hx358.size
          have z370 := b361.lt
          have z371 := b362.lt
          have z372 := b363.lt
          have z373 := b364.lt
          have z374 := b365.lt
          have z375 := b366.lt
          have hvl2 : v2.length = 16 := by rw [hp360]; exact mixTo_len hvl
          refine wp_seq_k (fun K376 hK376 => ?_)
          refine wp_seq_k (fun K377 hK377 => ?_)
          refine wp_region_lit ?_
          refine qv 0 (.int .i64 (i2 : Nat)) F357 rfl (rn_move (F357.get rfl)) fun _ F379 => ?_; clear F357
          refine qv 1 (.bool (decide (((i2 : Nat) : Int) < (8 : Int)))) F379 rfl (rn_lss (F379.get rfl) rfl) fun _ F381 => ?_; clear F379
          refine wpList_nil ?_
          refine hK377 _ _ ?_
          clear hK377
          by_cases hc382 : ((i2 : Nat) : Int) < (8 : Int)
          · skip
            refine wp_cond_true (c_true F381 rfl (decide_eq_true hc382)) ?_
            refine wp_skip ?_
            refine hK376 _ _ ?_
            clear hK376
            refine wp_seq_k (fun K383 hK383 => ?_)
            refine wp_block ?_
            refine wp_seq_k (fun K384 hK384 => ?_)
            refine wp_region_lit ?_
            refine qv 0 (.int .i64 (i2 : Nat)) F381 rfl (rn_move (F381.get rfl)) fun _ F386 => ?_; clear F381
            refine qv 1 (.int .i64 (i2 % 4 : Nat)) F386 rfl (rn_remN (a := i2) (b := 4) (F386.get rfl) rfl (by omega)) fun _ F388 => ?_; clear F386
            refine qv 2 (.int .i64 (i2 % 4 : Nat)) F388 rfl (rn_assign (F388.get rfl)) fun _ F390 => ?_; clear F388
            refine wpList_nil ?_
            refine hK384 _ _ ?_
            clear hK384
            refine wp_seq_k (fun K391 hK391 => ?_)
            refine wp_region_lit ?_
            refine qv 0 (.int .i64 (i2 % 4 : Nat)) F390 rfl (rn_move (F390.get rfl)) fun _ F393 => ?_; clear F390
            refine qv 1 (.int .i64 (i2 % 4 : Nat)) F393 rfl (rn_move (F393.get rfl)) fun _ F395 => ?_; clear F393
            refine qv 2 (.int .i64 (4 + (i2 % 4) : Nat)) F395 rfl (rn_addN (a := 4) (b := i2 % 4) rfl (F395.get rfl) (by omega)) fun _ F397 => ?_; clear F395
            refine qv 3 (.int .i64 (i2 % 4 : Nat)) F397 rfl (rn_move (F397.get rfl)) fun _ F399 => ?_; clear F397
            refine qv 4 (.int .i64 (8 + (i2 % 4) : Nat)) F399 rfl (rn_addN (a := 8) (b := i2 % 4) rfl (F399.get rfl) (by omega)) fun _ F401 => ?_; clear F399
            refine qv 5 (.int .i64 (i2 % 4 : Nat)) F401 rfl (rn_move (F401.get rfl)) fun _ F403 => ?_; clear F401
            refine qv 6 (.int .i64 (12 + (i2 % 4) : Nat)) F403 rfl (rn_addN (a := 12) (b := i2 % 4) rfl (F403.get rfl) (by omega)) fun _ F405 => ?_; clear F403
            refine qv 7 (.agg (intVals ([((i2 % 4 : Nat) : Int), ((4 + (i2 % 4) : Nat) : Int), ((8 + (i2 % 4) : Nat) : Int), ((12 + (i2 % 4) : Nat) : Int)])).toArray) F405 rfl (rn_build (parts4 (F405.get rfl) (F405.get rfl) (F405.get rfl) (F405.get rfl)) (by kernel_rfl)) fun _ F407 => ?_; clear F405
            refine wpl_op (i := 8) rfl (o_new (fun g => (.pointer (some ⟨g, 0, none⟩))) (intVals (List.replicate 4 0)) 100 F407 rfl rfl rfl rfl (by kernel_rfl) ?_)
            intro g408 w409 a414 F415 z412 z413 b410 hx411; clear F407
            refine wpl_op (i := 9) rfl (o_store (cells := (intVals ([((i2 % 4 : Nat) : Int), ((4 + (i2 % 4) : Nat) : Int), ((8 + (i2 % 4) : Nat) : Int), ((12 + (i2 % 4) : Nat) : Int)]))) F415 rfl rfl rfl rfl (F415.get rfl) (F415.get rfl) b410 (inf100.trans (congrArg some (intVals_len (show List.length [((i2 % 4 : Nat) : Int), ((4 + (i2 % 4) : Nat) : Int), ((8 + (i2 % 4) : Nat) : Int), ((12 + (i2 % 4) : Nat) : Int)] = 4 from rfl)).symm)) ((intVals_len (show List.length (List.replicate 4 0) = _ from List.length_replicate)).trans (intVals_len (show List.length [((i2 % 4 : Nat) : Int), ((4 + (i2 % 4) : Nat) : Int), ((8 + (i2 % 4) : Nat) : Int), ((12 + (i2 % 4) : Nat) : Int)] = 4 from rfl)).symm) (intVals_one _) ?_)
            intro w416 b417 hg418; have z419 := hg418.size
            refine wpList_nil ?_
            refine hK391 _ _ ?_
            clear hK391
            have F420 := (((((((((((((((((((((F415.nil.c F415 18 rfl).c F415 17 rfl).c F415 83 rfl).c F415 16 rfl).c F415 79 rfl).c F415 15 rfl).c F415 14 rfl).c F415 72 rfl).c F415 45 rfl).c F415 13 rfl).c F415 12 rfl).c F415 11 rfl).c F415 22 rfl).c F415 10 rfl).c F415 9 rfl).c F415 8 rfl).c F415 4 rfl).c F415 3 rfl).c F415 2 rfl).c F415 1 rfl).c F415 0 rfl)
            clear F415
            refine wp_meet (fun a' W => ∃ (pa pb pc pd : Nat), Sl 182 [(0, (.agg (u32Vals h).toArray)), (1, (.slice A 64 c)), (2, (.int .u64 (n.toNat : Nat))), (3, (.bool last)), (4, (.pointer (some ⟨g2, 0, none⟩))), (8, (.pointer (some ⟨g10, 0, none⟩))), (9, (.pointer (some ⟨g21, 0, none⟩))), (10, (.int .i64 (k : Nat))), (22, (.bool (decide (((k : Nat) : Int) < (64 : Int))))), (11, (.pointer (some ⟨g125, 0, none⟩))), (12, (.pointer (some ⟨g143, 0, none⟩))), (13, (.int .i64 (k1 : Nat))), (45, (.bool (decide (((k1 : Nat) : Int) < (8 : Int))))), (72, (.bool last)), (14, (.pointer (some ⟨g299, 0, none⟩))), (15, (.int .i64 (r : Nat))), (79, (.bool (decide (((r : Nat) : Int) < (10 : Int))))), (16, (.int .i64 (i2 : Nat))), (83, (.bool (decide (((i2 : Nat) : Int) < (8 : Int))))), (17, (.int .i64 (i2 % 4 : Nat))), (18, (.pointer (some ⟨g408, 0, none⟩)))] a' ∧ Ext w W ∧ Blk W g2 80 (u32Vals h) ∧ Blk W g10 80 (u32Vals (List.replicate 8 0)) ∧ Blk W g21 89 (u32Vals m) ∧ Blk W g125 89 (u32Vals v2) ∧ Blk W g143 80 (u32Vals iv) ∧ Blk W g299 98 (intVals permI) ∧ Blk W g408 100 (intVals [((pa : Nat) : Int), ((pb : Nat) : Int), ((pc : Nat) : Int), ((pd : Nat) : Int)]) ∧ ((i2 < 4 ∧ pa = i2 % 4 ∧ pb = 4 + i2 % 4 ∧ pc = 8 + i2 % 4 ∧ pd = 12 + i2 % 4) ∨ (¬ i2 < 4 ∧ pa = i2 % 4 ∧ pb = 4 + (i2 % 4 + 1) % 4 ∧ pc = 8 + (i2 % 4 + 2) % 4 ∧ pd = 12 + (i2 % 4 + 3) % 4)) ∧ w416.heap.size ≤ W.heap.size) ?_ ?_
            · skip
              refine wp_seq_k (fun K421 hK421 => ?_)
              refine wp_region_lit ?_
              refine qv 0 (.int .i64 (i2 : Nat)) F420 rfl (rn_move (F420.get rfl)) fun _ F423 => ?_; clear F420
              refine qv 1 (.bool (decide ((4 : Int) ≤ ((i2 : Nat) : Int)))) F423 rfl (rn_geq (F423.get rfl) rfl) fun _ F425 => ?_; clear F423
              refine wpList_nil ?_
              refine hK421 _ _ ?_
              clear hK421
              by_cases hc426 : (4 : Int) ≤ ((i2 : Nat) : Int)
              · skip
                refine wp_cond_true (c_true F425 rfl (decide_eq_true hc426)) ?_
                refine wp_region_lit ?_
                refine qv 0 (.int .i64 (i2 % 4 : Nat)) F425 rfl (rn_move (F425.get rfl)) fun _ F428 => ?_; clear F425
                refine qv 1 (.int .i64 (i2 % 4 : Nat)) F428 rfl (rn_move (F428.get rfl)) fun _ F430 => ?_; clear F428
                refine qv 2 (.int .i64 ((i2 % 4) + 1 : Nat)) F430 rfl (rn_addN (a := i2 % 4) (b := 1) (F430.get rfl) rfl (by omega)) fun _ F432 => ?_; clear F430
                refine qv 3 (.int .i64 (((i2 % 4) + 1) % 4 : Nat)) F432 rfl (rn_remN (a := (i2 % 4) + 1) (b := 4) (F432.get rfl) rfl (by omega)) fun _ F434 => ?_; clear F432
                refine qv 4 (.int .i64 (4 + (((i2 % 4) + 1) % 4) : Nat)) F434 rfl (rn_addN (a := 4) (b := ((i2 % 4) + 1) % 4) rfl (F434.get rfl) (by omega)) fun _ F436 => ?_; clear F434
                refine qv 5 (.int .i64 (i2 % 4 : Nat)) F436 rfl (rn_move (F436.get rfl)) fun _ F438 => ?_; clear F436
                refine qv 6 (.int .i64 ((i2 % 4) + 2 : Nat)) F438 rfl (rn_addN (a := i2 % 4) (b := 2) (F438.get rfl) rfl (by omega)) fun _ F440 => ?_; clear F438
                refine qv 7 (.int .i64 (((i2 % 4) + 2) % 4 : Nat)) F440 rfl (rn_remN (a := (i2 % 4) + 2) (b := 4) (F440.get rfl) rfl (by omega)) fun _ F442 => ?_; clear F440
                refine qv 8 (.int .i64 (8 + (((i2 % 4) + 2) % 4) : Nat)) F442 rfl (rn_addN (a := 8) (b := ((i2 % 4) + 2) % 4) rfl (F442.get rfl) (by omega)) fun _ F444 => ?_; clear F442
                refine qv 9 (.int .i64 (i2 % 4 : Nat)) F444 rfl (rn_move (F444.get rfl)) fun _ F446 => ?_; clear F444
                refine qv 10 (.int .i64 ((i2 % 4) + 3 : Nat)) F446 rfl (rn_addN (a := i2 % 4) (b := 3) (F446.get rfl) rfl (by omega)) fun _ F448 => ?_; clear F446
                refine qv 11 (.int .i64 (((i2 % 4) + 3) % 4 : Nat)) F448 rfl (rn_remN (a := (i2 % 4) + 3) (b := 4) (F448.get rfl) rfl (by omega)) fun _ F450 => ?_; clear F448
                refine qv 12 (.int .i64 (12 + (((i2 % 4) + 3) % 4) : Nat)) F450 rfl (rn_addN (a := 12) (b := ((i2 % 4) + 3) % 4) rfl (F450.get rfl) (by omega)) fun _ F452 => ?_; clear F450
                refine qv 13 (.agg (intVals ([((i2 % 4 : Nat) : Int), ((4 + (((i2 % 4) + 1) % 4) : Nat) : Int), ((8 + (((i2 % 4) + 2) % 4) : Nat) : Int), ((12 + (((i2 % 4) + 3) % 4) : Nat) : Int)])).toArray) F452 rfl (rn_build (parts4 (F452.get rfl) (F452.get rfl) (F452.get rfl) (F452.get rfl)) (by kernel_rfl)) fun _ F454 => ?_; clear F452
                refine wpl_op (i := 14) rfl (o_store (cells := (intVals ([((i2 % 4 : Nat) : Int), ((4 + (((i2 % 4) + 1) % 4) : Nat) : Int), ((8 + (((i2 % 4) + 2) % 4) : Nat) : Int), ((12 + (((i2 % 4) + 3) % 4) : Nat) : Int)]))) F454 rfl rfl rfl rfl (F454.get rfl) (F454.get rfl) b417 (inf100.trans (congrArg some (intVals_len (show List.length [((i2 % 4 : Nat) : Int), ((4 + (((i2 % 4) + 1) % 4) : Nat) : Int), ((8 + (((i2 % 4) + 2) % 4) : Nat) : Int), ((12 + (((i2 % 4) + 3) % 4) : Nat) : Int)] = 4 from rfl)).symm)) ((intVals_len (show List.length [((i2 % 4 : Nat) : Int), ((4 + (i2 % 4) : Nat) : Int), ((8 + (i2 % 4) : Nat) : Int), ((12 + (i2 % 4) : Nat) : Int)] = 4 from rfl)).trans (intVals_len (show List.length [((i2 % 4 : Nat) : Int), ((4 + (((i2 % 4) + 1) % 4) : Nat) : Int), ((8 + (((i2 % 4) + 2) % 4) : Nat) : Int), ((12 + (((i2 % 4) + 3) % 4) : Nat) : Int)] = 4 from rfl)).symm) (intVals_one _) ?_)
                intro w455 b456 hg457; have z458 := hg457.size
                refine wpList_nil ?_
                have b459 := (((b361.ext hx411).grownN hg418 (by omega)).grownN hg457 (by omega))
                have b460 := (((b362.ext hx411).grownN hg418 (by omega)).grownN hg457 (by omega))
                have b461 := (((b363.ext hx411).grownN hg418 (by omega)).grownN hg457 (by omega))
                have b462 := (((b364.ext hx411).grownN hg418 (by omega)).grownN hg457 (by omega))
                have b463 := (((b365.ext hx411).grownN hg418 (by omega)).grownN hg457 (by omega))
                have b464 := (((b366.ext hx411).grownN hg418 (by omega)).grownN hg457 (by omega))
                exact ⟨i2 % 4, 4 + (((i2 % 4) + 1) % 4), 8 + (((i2 % 4) + 2) % 4), 12 + (((i2 % 4) + 3) % 4), (((((((((((((((((((((F454.nil.c F454 18 rfl).c F454 17 rfl).c F454 83 rfl).c F454 16 rfl).c F454 79 rfl).c F454 15 rfl).c F454 14 rfl).c F454 72 rfl).c F454 45 rfl).c F454 13 rfl).c F454 12 rfl).c F454 11 rfl).c F454 22 rfl).c F454 10 rfl).c F454 9 rfl).c F454 8 rfl).c F454 4 rfl).c F454 3 rfl).c F454 2 rfl).c F454 1 rfl).c F454 0 rfl), (((((Ext.refl w).trans hx358).trans hx411).grownN hg418 (by omega)).grownN hg457 (by omega)), b459, b460, b461, b462, b463, b464, b456, (by omega), (by omega)⟩
              · skip
                refine wp_cond_false (c_false F425 rfl (decide_eq_false hc426)) ?_
                refine wp_skip ?_
                have b465 := ((b361.ext hx411).grownN hg418 (by omega))
                have b466 := ((b362.ext hx411).grownN hg418 (by omega))
                have b467 := ((b363.ext hx411).grownN hg418 (by omega))
                have b468 := ((b364.ext hx411).grownN hg418 (by omega))
                have b469 := ((b365.ext hx411).grownN hg418 (by omega))
                have b470 := ((b366.ext hx411).grownN hg418 (by omega))
                exact ⟨i2 % 4, 4 + (i2 % 4), 8 + (i2 % 4), 12 + (i2 % 4), (((((((((((((((((((((F425.nil.c F425 18 rfl).c F425 17 rfl).c F425 83 rfl).c F425 16 rfl).c F425 79 rfl).c F425 15 rfl).c F425 14 rfl).c F425 72 rfl).c F425 45 rfl).c F425 13 rfl).c F425 12 rfl).c F425 11 rfl).c F425 22 rfl).c F425 10 rfl).c F425 9 rfl).c F425 8 rfl).c F425 4 rfl).c F425 3 rfl).c F425 2 rfl).c F425 1 rfl).c F425 0 rfl), ((((Ext.refl w).trans hx358).trans hx411).grownN hg418 (by omega)), b465, b466, b467, b468, b469, b470, b417, (by omega), (by omega)⟩
            · rintro a471 w472 ⟨pa, pb, pc, pd, F473, hx474, b477, b478, b479, b480, b481, b482, b483, pm475, z476⟩
              clear F420
              have z484 := b477.lt
              have z485 := b478.lt
              have z486 := b479.lt
              have z487 := b480.lt
              have z488 := b481.lt
              have z489 := b482.lt
              have z490 := b483.lt
              have z491 := permRow_lt (r := r) (by omega) (j := 2 * i2) (by omega); have z492 := permRow_lt (r := r) (by omega) (j := 2 * i2 + 1) (by omega)
              have hx494 : ∃ W, w472.drew = W ∧ Ext w472 W := ⟨_, rfl, (Ext.refl _).drew⟩
              obtain ⟨w493, e495, hx494⟩ := hx494
              have z496 := hx494.size
              refine anyg_start (fun W => Ext w493 W ∧ Blk W g408 100 (intVals [((pa : Nat) : Int), ((pb : Nat) : Int), ((pc : Nat) : Int), ((pd : Nat) : Int)]) ∧ Blk W g125 89 (u32Vals v2) ∧ Blk W g299 98 (intVals permI) ∧ Blk W g21 89 (u32Vals m)) (fun i => i == 48 || i == 50 || i == 52 || i == 54) (fun W => Blk W g408 100 (intVals [((pa : Nat) : Int), ((pb : Nat) : Int), ((pc : Nat) : Int), ((pd : Nat) : Int)]) ∧ Blk W g299 98 (intVals permI) ∧ Blk W g21 89 (u32Vals m)) 55 #[false, false, false, false, false, false, false, false, false, false, false, false, false, false, false, false, false, false, false, false, false, false, false, false, false, false, false, false, false, false, false, false, false, false, false, false, false, false, false, false, false, false, false, false, false, false, false, false, false, false, false, false, false, false, false] rfl rfl rfl ?_
              rw [e495]; clear e495
              refine gp 0 (.pointer (some ⟨g408, 0 + 0, none⟩)) F473 rfl rfl (fun W => (rn_indexArr Tryd.underlying100 inf3 (F473.get rfl) rfl (by omega : (0 : Int) ≤ 0) (by omega : (0 : Int) < ((4 : Nat) : Int)))) fun _ F498 => ?_; clear F473
              have b500 := (b483.ext hx494)
              have b501 := (b480.ext hx494)
              have b502 := (b482.ext hx494)
              have b503 := (b479.ext hx494)
              have hS499 : Ext w493 w493 ∧ Blk w493 g408 100 (intVals [((pa : Nat) : Int), ((pb : Nat) : Int), ((pc : Nat) : Int), ((pd : Nat) : Int)]) ∧ Blk w493 g125 89 (u32Vals v2) ∧ Blk w493 g299 98 (intVals permI) ∧ Blk w493 g21 89 (u32Vals m) := ⟨(Ext.refl w493), b500, b501, b502, b503⟩
              refine gs 1 (.int .i64 (pa : Nat)) F498 rfl rfl hS499 (fun W hW => (rn_load (isAgg_no Tryd.underlying3 rfl) (F498.get rfl) (blk_intVals hW.2.1 (by omega) (show 0 < 4 from by decide)))) fun _ F505 => ?_; clear F498
              refine gp 2 (.pointer (some ⟨g408, 0 + 1, none⟩)) F505 rfl rfl (fun W => (rn_indexArr Tryd.underlying100 inf3 (F505.get rfl) rfl (by omega : (0 : Int) ≤ 1) (by omega : (1 : Int) < ((4 : Nat) : Int)))) fun _ F507 => ?_; clear F505
              have hS508 : Blk w493 g408 100 (intVals [((pa : Nat) : Int), ((pb : Nat) : Int), ((pc : Nat) : Int), ((pd : Nat) : Int)]) ∧ Blk w493 g299 98 (intVals permI) ∧ Blk w493 g21 89 (u32Vals m) := ⟨b500, b502, b503⟩
              refine anyg_val2 (i := 3) (v := (.int .i64 (pb : Nat))) F507 (by decide +kernel) (by decide +kernel) rfl rfl rfl rfl (fun _ _ _ _ h => h) rfl hS508 (fun W hW => (rn_load (isAgg_no Tryd.underlying3 rfl) (F507.get rfl) (blk_intVals hW.1 (by omega) (show 1 < 4 from by decide)))) ?_
              intro a509 F510; clear F507
              refine gp 4 (.pointer (some ⟨g408, 0 + 2, none⟩)) F510 rfl rfl (fun W => (rn_indexArr Tryd.underlying100 inf3 (F510.get rfl) rfl (by omega : (0 : Int) ≤ 2) (by omega : (2 : Int) < ((4 : Nat) : Int)))) fun _ F512 => ?_; clear F510
              have hS513 : Blk w493 g408 100 (intVals [((pa : Nat) : Int), ((pb : Nat) : Int), ((pc : Nat) : Int), ((pd : Nat) : Int)]) ∧ Blk w493 g299 98 (intVals permI) ∧ Blk w493 g21 89 (u32Vals m) := ⟨b500, b502, b503⟩
              refine anyg_val2 (i := 5) (v := (.int .i64 (pc : Nat))) F512 (by decide +kernel) (by decide +kernel) rfl rfl rfl rfl (fun _ _ _ _ h => h) rfl hS513 (fun W hW => (rn_load (isAgg_no Tryd.underlying3 rfl) (F512.get rfl) (blk_intVals hW.1 (by omega) (show 2 < 4 from by decide)))) ?_
              intro a514 F515; clear F512
              refine gp 6 (.pointer (some ⟨g408, 0 + 3, none⟩)) F515 rfl rfl (fun W => (rn_indexArr Tryd.underlying100 inf3 (F515.get rfl) rfl (by omega : (0 : Int) ≤ 3) (by omega : (3 : Int) < ((4 : Nat) : Int)))) fun _ F517 => ?_; clear F515
              have hS518 : Blk w493 g408 100 (intVals [((pa : Nat) : Int), ((pb : Nat) : Int), ((pc : Nat) : Int), ((pd : Nat) : Int)]) ∧ Blk w493 g299 98 (intVals permI) ∧ Blk w493 g21 89 (u32Vals m) := ⟨b500, b502, b503⟩
              refine anyg_val2 (i := 7) (v := (.int .i64 (pd : Nat))) F517 (by decide +kernel) (by decide +kernel) rfl rfl rfl rfl (fun _ _ _ _ h => h) rfl hS518 (fun W hW => (rn_load (isAgg_no Tryd.underlying3 rfl) (F517.get rfl) (blk_intVals hW.1 (by omega) (show 3 < 4 from by decide)))) ?_
              intro a519 F520; clear F517
              refine gp 8 (.pointer (some ⟨g408, 0 + 0, none⟩)) F520 rfl rfl (fun W => (rn_indexArr Tryd.underlying100 inf3 (F520.get rfl) rfl (by omega : (0 : Int) ≤ 0) (by omega : (0 : Int) < ((4 : Nat) : Int)))) fun _ F522 => ?_; clear F520
              refine gs 9 (.int .i64 (pa : Nat)) F522 rfl rfl hS499 (fun W hW => (rn_load (isAgg_no Tryd.underlying3 rfl) (F522.get rfl) (blk_intVals hW.2.1 (by omega) (show 0 < 4 from by decide)))) fun _ F524 => ?_; clear F522
              refine gp 10 (.pointer (some ⟨g125, 0 + pa, none⟩)) F524 rfl rfl (fun W => (rn_indexArr Tryd.underlying89 inf79 (F524.get rfl) (F524.get rfl) (by omega : (0 : Int) ≤ (pa : Nat)) (by omega : ((pa : Nat) : Int) < ((16 : Nat) : Int)))) fun _ F526 => ?_; clear F524
              refine gs 11 (.int .u32 ((v2.getD pa 0).toNat : Nat)) F526 rfl rfl hS499 (fun W hW => (rn_load (isAgg_no Tryd.underlying79 rfl) (F526.get rfl) (blk_word hW.2.2.1 (by omega) (by have := (show List.length v2 = _ from hvl2); omega)))) fun _ F528 => ?_; clear F526
              refine gp 12 (.pointer (some ⟨g408, 0 + 1, none⟩)) F528 rfl rfl (fun W => (rn_indexArr Tryd.underlying100 inf3 (F528.get rfl) rfl (by omega : (0 : Int) ≤ 1) (by omega : (1 : Int) < ((4 : Nat) : Int)))) fun _ F530 => ?_; clear F528
              refine gs 13 (.int .i64 (pb : Nat)) F530 rfl rfl hS499 (fun W hW => (rn_load (isAgg_no Tryd.underlying3 rfl) (F530.get rfl) (blk_intVals hW.2.1 (by omega) (show 1 < 4 from by decide)))) fun _ F532 => ?_; clear F530
              refine gp 14 (.pointer (some ⟨g125, 0 + pb, none⟩)) F532 rfl rfl (fun W => (rn_indexArr Tryd.underlying89 inf79 (F532.get rfl) (F532.get rfl) (by omega : (0 : Int) ≤ (pb : Nat)) (by omega : ((pb : Nat) : Int) < ((16 : Nat) : Int)))) fun _ F534 => ?_; clear F532
              refine gs 15 (.int .u32 ((v2.getD pb 0).toNat : Nat)) F534 rfl rfl hS499 (fun W hW => (rn_load (isAgg_no Tryd.underlying79 rfl) (F534.get rfl) (blk_word hW.2.2.1 (by omega) (by have := (show List.length v2 = _ from hvl2); omega)))) fun _ F536 => ?_; clear F534
              refine gp 16 (.pointer (some ⟨g408, 0 + 2, none⟩)) F536 rfl rfl (fun W => (rn_indexArr Tryd.underlying100 inf3 (F536.get rfl) rfl (by omega : (0 : Int) ≤ 2) (by omega : (2 : Int) < ((4 : Nat) : Int)))) fun _ F538 => ?_; clear F536
              refine gs 17 (.int .i64 (pc : Nat)) F538 rfl rfl hS499 (fun W hW => (rn_load (isAgg_no Tryd.underlying3 rfl) (F538.get rfl) (blk_intVals hW.2.1 (by omega) (show 2 < 4 from by decide)))) fun _ F540 => ?_; clear F538
              refine gp 18 (.pointer (some ⟨g125, 0 + pc, none⟩)) F540 rfl rfl (fun W => (rn_indexArr Tryd.underlying89 inf79 (F540.get rfl) (F540.get rfl) (by omega : (0 : Int) ≤ (pc : Nat)) (by omega : ((pc : Nat) : Int) < ((16 : Nat) : Int)))) fun _ F542 => ?_; clear F540
              refine gs 19 (.int .u32 ((v2.getD pc 0).toNat : Nat)) F542 rfl rfl hS499 (fun W hW => (rn_load (isAgg_no Tryd.underlying79 rfl) (F542.get rfl) (blk_word hW.2.2.1 (by omega) (by have := (show List.length v2 = _ from hvl2); omega)))) fun _ F544 => ?_; clear F542
              refine gp 20 (.pointer (some ⟨g408, 0 + 3, none⟩)) F544 rfl rfl (fun W => (rn_indexArr Tryd.underlying100 inf3 (F544.get rfl) rfl (by omega : (0 : Int) ≤ 3) (by omega : (3 : Int) < ((4 : Nat) : Int)))) fun _ F546 => ?_; clear F544
              refine gs 21 (.int .i64 (pd : Nat)) F546 rfl rfl hS499 (fun W hW => (rn_load (isAgg_no Tryd.underlying3 rfl) (F546.get rfl) (blk_intVals hW.2.1 (by omega) (show 3 < 4 from by decide)))) fun _ F548 => ?_; clear F546
              refine gp 22 (.pointer (some ⟨g125, 0 + pd, none⟩)) F548 rfl rfl (fun W => (rn_indexArr Tryd.underlying89 inf79 (F548.get rfl) (F548.get rfl) (by omega : (0 : Int) ≤ (pd : Nat)) (by omega : ((pd : Nat) : Int) < ((16 : Nat) : Int)))) fun _ F550 => ?_; clear F548
              refine gs 23 (.int .u32 ((v2.getD pd 0).toNat : Nat)) F550 rfl rfl hS499 (fun W hW => (rn_load (isAgg_no Tryd.underlying79 rfl) (F550.get rfl) (blk_word hW.2.2.1 (by omega) (by have := (show List.length v2 = _ from hvl2); omega)))) fun _ F552 => ?_; clear F550
              refine gp 24 (.int .i64 (r : Nat)) F552 rfl rfl (fun W => (rn_move (F552.get rfl))) fun _ F554 => ?_; clear F552
              refine gp 25 (.int .i64 (i2 : Nat)) F554 rfl rfl (fun W => (rn_move (F554.get rfl))) fun _ F556 => ?_; clear F554
              refine gp 26 (.int .i64 (2 * i2 : Nat)) F556 rfl rfl (fun W => (rn_mulN (a := 2) (b := i2) rfl (F556.get rfl) (by omega))) fun _ F558 => ?_; clear F556
              refine gp 27 (.pointer (some ⟨g299, 0 + r * 16, none⟩)) F558 rfl rfl (fun W => (rn_indexArrE Tryd.underlying98 inf97 (F558.get rfl) (F558.get rfl) (by omega : (0 : Int) ≤ (r : Nat)) (by omega : ((r : Nat) : Int) < ((10 : Nat) : Int)) (by omega))) fun _ F560 => ?_; clear F558
              refine gp 28 (.pointer (some ⟨g299, 0 + r * 16 + (2 * i2), none⟩)) F560 rfl rfl (fun W => (rn_indexArr Tryd.underlying97 inf3 (F560.get rfl) (F560.get rfl) (by omega : (0 : Int) ≤ (2 * i2 : Nat)) (by omega : ((2 * i2 : Nat) : Int) < ((16 : Nat) : Int)))) fun _ F562 => ?_; clear F560
              refine gs 29 (.int .i64 ((permRow r).getD (2 * i2) 0 : Nat)) F562 rfl rfl hS499 (fun W hW => (rn_load (isAgg_no Tryd.underlying3 rfl) (F562.get rfl) (blk_perm hW.2.2.2.1 (r := r) (j := (2 * i2)) (by omega) (by omega) (by omega)))) fun _ F564 => ?_; clear F562
              refine gp 30 (.pointer (some ⟨g21, 0 + ((permRow r).getD (2 * i2) 0), none⟩)) F564 rfl rfl (fun W => (rn_indexArr Tryd.underlying89 inf79 (F564.get rfl) (F564.get rfl) (by omega : (0 : Int) ≤ ((permRow r).getD (2 * i2) 0 : Nat)) (by omega : (((permRow r).getD (2 * i2) 0 : Nat) : Int) < ((16 : Nat) : Int)))) fun _ F566 => ?_; clear F564
              refine gs 31 (.int .u32 ((m.getD ((permRow r).getD (2 * i2) 0) 0).toNat : Nat)) F566 rfl rfl hS499 (fun W hW => (rn_load (isAgg_no Tryd.underlying79 rfl) (F566.get rfl) (blk_word hW.2.2.2.2 (by omega) (by have := (show List.length m = _ from hm); omega)))) fun _ F568 => ?_; clear F566
              refine gp 32 (.int .i64 (r : Nat)) F568 rfl rfl (fun W => (rn_move (F568.get rfl))) fun _ F570 => ?_; clear F568
              refine gp 33 (.int .i64 (i2 : Nat)) F570 rfl rfl (fun W => (rn_move (F570.get rfl))) fun _ F572 => ?_; clear F570
              refine gp 34 (.int .i64 (2 * i2 : Nat)) F572 rfl rfl (fun W => (rn_mulN (a := 2) (b := i2) rfl (F572.get rfl) (by omega))) fun _ F574 => ?_; clear F572
              refine gp 35 (.int .i64 ((2 * i2) + 1 : Nat)) F574 rfl rfl (fun W => (rn_addN (a := 2 * i2) (b := 1) (F574.get rfl) rfl (by omega))) fun _ F576 => ?_; clear F574
              refine gp 36 (.pointer (some ⟨g299, 0 + r * 16, none⟩)) F576 rfl rfl (fun W => (rn_indexArrE Tryd.underlying98 inf97 (F576.get rfl) (F576.get rfl) (by omega : (0 : Int) ≤ (r : Nat)) (by omega : ((r : Nat) : Int) < ((10 : Nat) : Int)) (by omega))) fun _ F578 => ?_; clear F576
              refine gp 37 (.pointer (some ⟨g299, 0 + r * 16 + ((2 * i2) + 1), none⟩)) F578 rfl rfl (fun W => (rn_indexArr Tryd.underlying97 inf3 (F578.get rfl) (F578.get rfl) (by omega : (0 : Int) ≤ ((2 * i2) + 1 : Nat)) (by omega : (((2 * i2) + 1 : Nat) : Int) < ((16 : Nat) : Int)))) fun _ F580 => ?_; clear F578
              refine gs 38 (.int .i64 ((permRow r).getD ((2 * i2) + 1) 0 : Nat)) F580 rfl rfl hS499 (fun W hW => (rn_load (isAgg_no Tryd.underlying3 rfl) (F580.get rfl) (blk_perm hW.2.2.2.1 (r := r) (j := ((2 * i2) + 1)) (by omega) (by omega) (by omega)))) fun _ F582 => ?_; clear F580
              refine gp 39 (.pointer (some ⟨g21, 0 + ((permRow r).getD ((2 * i2) + 1) 0), none⟩)) F582 rfl rfl (fun W => (rn_indexArr Tryd.underlying89 inf79 (F582.get rfl) (F582.get rfl) (by omega : (0 : Int) ≤ ((permRow r).getD ((2 * i2) + 1) 0 : Nat)) (by omega : (((permRow r).getD ((2 * i2) + 1) 0 : Nat) : Int) < ((16 : Nat) : Int)))) fun _ F584 => ?_; clear F582
              refine gs 40 (.int .u32 ((m.getD ((permRow r).getD ((2 * i2) + 1) 0) 0).toNat : Nat)) F584 rfl rfl hS499 (fun W hW => (rn_load (isAgg_no Tryd.underlying79 rfl) (F584.get rfl) (blk_word hW.2.2.2.2 (by omega) (by have := (show List.length m = _ from hm); omega)))) fun _ F586 => ?_; clear F584
              refine anyg_one (i := 41) (by decide +kernel) rfl ?_
              refine o_call F586 rfl rfl rfl rfl (rn_call (args6 (F586.get rfl) (F586.get rfl) (F586.get rfl) (F586.get rfl) (F586.get rfl) (F586.get rfl)) rfl (by kernel_rfl)) (rmix_any (v2.getD pa 0) (v2.getD pb 0) (v2.getD pc 0) (v2.getD pd 0) (m.getD ((permRow r).getD (2 * i2) 0) 0) (m.getD ((permRow r).getD ((2 * i2) + 1) 0) 0) _) ?_
              rintro _ w587 ⟨rfl, hx588⟩
              refine ⟨_, rfl, ?_⟩; intro a589 F590; clear F586; have z591 := hx588.size
              have b592 := (b500.ext hx588)
              have b593 := (b501.ext hx588)
              have b594 := (b502.ext hx588)
              have b595 := (b503.ext hx588)
              refine ⟨⟨fun _ _ => ⟨((Ext.refl w493).trans hx588), b592, b593, b594, b595⟩, fun _ => ⟨b592, b594, b595⟩⟩, ?_⟩
              refine gp 42 (.tuple #[(.int .u32 (((mix4 (v2.getD pa 0) (v2.getD pb 0) (v2.getD pc 0) (v2.getD pd 0) (m.getD ((permRow r).getD (2 * i2) 0) 0) (m.getD ((permRow r).getD ((2 * i2) + 1) 0) 0)).a).toNat : Nat)), (.int .u32 (((mix4 (v2.getD pa 0) (v2.getD pb 0) (v2.getD pc 0) (v2.getD pd 0) (m.getD ((permRow r).getD (2 * i2) 0) 0) (m.getD ((permRow r).getD ((2 * i2) + 1) 0) 0)).b).toNat : Nat)), (.int .u32 (((mix4 (v2.getD pa 0) (v2.getD pb 0) (v2.getD pc 0) (v2.getD pd 0) (m.getD ((permRow r).getD (2 * i2) 0) 0) (m.getD ((permRow r).getD ((2 * i2) + 1) 0) 0)).c).toNat : Nat)), (.int .u32 (((mix4 (v2.getD pa 0) (v2.getD pb 0) (v2.getD pc 0) (v2.getD pd 0) (m.getD ((permRow r).getD (2 * i2) 0) 0) (m.getD ((permRow r).getD ((2 * i2) + 1) 0) 0)).d).toNat : Nat))]) F590 rfl rfl (fun W => (rn_move (F590.get rfl))) fun _ F597 => ?_; clear F590
              refine gp 43 (.int .u32 (((mix4 (v2.getD pa 0) (v2.getD pb 0) (v2.getD pc 0) (v2.getD pd 0) (m.getD ((permRow r).getD (2 * i2) 0) 0) (m.getD ((permRow r).getD ((2 * i2) + 1) 0) 0)).a).toNat : Nat)) F597 rfl rfl (fun W => (rn_extract (F597.get rfl) rfl)) fun _ F599 => ?_; clear F597
              refine gp 44 (.int .u32 (((mix4 (v2.getD pa 0) (v2.getD pb 0) (v2.getD pc 0) (v2.getD pd 0) (m.getD ((permRow r).getD (2 * i2) 0) 0) (m.getD ((permRow r).getD ((2 * i2) + 1) 0) 0)).b).toNat : Nat)) F599 rfl rfl (fun W => (rn_extract (F599.get rfl) rfl)) fun _ F601 => ?_; clear F599
              refine gp 45 (.int .u32 (((mix4 (v2.getD pa 0) (v2.getD pb 0) (v2.getD pc 0) (v2.getD pd 0) (m.getD ((permRow r).getD (2 * i2) 0) 0) (m.getD ((permRow r).getD ((2 * i2) + 1) 0) 0)).c).toNat : Nat)) F601 rfl rfl (fun W => (rn_extract (F601.get rfl) rfl)) fun _ F603 => ?_; clear F601
              refine gp 46 (.int .u32 (((mix4 (v2.getD pa 0) (v2.getD pb 0) (v2.getD pc 0) (v2.getD pd 0) (m.getD ((permRow r).getD (2 * i2) 0) 0) (m.getD ((permRow r).getD ((2 * i2) + 1) 0) 0)).d).toNat : Nat)) F603 rfl rfl (fun W => (rn_extract (F603.get rfl) rfl)) fun _ F605 => ?_; clear F603
              refine gp 47 (.pointer (some ⟨g125, 0 + pa, none⟩)) F605 rfl rfl (fun W => (rn_indexArr Tryd.underlying89 inf79 (F605.get rfl) (F605.get rfl) (by omega : (0 : Int) ≤ (pa : Nat)) (by omega : ((pa : Nat) : Int) < ((16 : Nat) : Int)))) fun _ F607 => ?_; clear F605
              refine anyg_one (i := 48) (by decide +kernel) rfl ?_
              refine o_store1 (new := (u32Vals (v2.set pa ((mix4 (v2.getD pa 0) (v2.getD pb 0) (v2.getD pc 0) (v2.getD pd 0) (m.getD ((permRow r).getD (2 * i2) 0) 0) (m.getD ((permRow r).getD ((2 * i2) + 1) 0) 0)).a)))) F607 rfl rfl rfl rfl (F607.get rfl) (F607.get rfl) b593 inf79 (by rw [u32Vals_len hvl2]; omega) rfl (u32Vals_set (by omega)) ?_
              intro w608 b609 hg610; have z611 := hg610.size
              have b612 := (b592.grownN hg610 (by omega))
              have b613 := (b594.grownN hg610 (by omega))
              have b614 := (b595.grownN hg610 (by omega))
              refine ⟨⟨fun h => absurd h (by decide), fun _ => ⟨b612, b613, b614⟩⟩, ?_⟩
              refine gp 49 (.pointer (some ⟨g125, 0 + pb, none⟩)) F607 rfl rfl (fun W => (rn_indexArr Tryd.underlying89 inf79 (F607.get rfl) (F607.get rfl) (by omega : (0 : Int) ≤ (pb : Nat)) (by omega : ((pb : Nat) : Int) < ((16 : Nat) : Int)))) fun _ F616 => ?_; clear F607
              refine anyg_one (i := 50) (by decide +kernel) rfl ?_
              refine o_store1 (new := (u32Vals ((v2.set pa ((mix4 (v2.getD pa 0) (v2.getD pb 0) (v2.getD pc 0) (v2.getD pd 0) (m.getD ((permRow r).getD (2 * i2) 0) 0) (m.getD ((permRow r).getD ((2 * i2) + 1) 0) 0)).a)).set pb ((mix4 (v2.getD pa 0) (v2.getD pb 0) (v2.getD pc 0) (v2.getD pd 0) (m.getD ((permRow r).getD (2 * i2) 0) 0) (m.getD ((permRow r).getD ((2 * i2) + 1) 0) 0)).b)))) F616 rfl rfl rfl rfl (F616.get rfl) (F616.get rfl) b609 inf79 (by rw [u32Vals_len (show List.length (v2.set pa ((mix4 (v2.getD pa 0) (v2.getD pb 0) (v2.getD pc 0) (v2.getD pd 0) (m.getD ((permRow r).getD (2 * i2) 0) 0) (m.getD ((permRow r).getD ((2 * i2) + 1) 0) 0)).a)) = _ from List.length_set.trans hvl2)]; omega) rfl (u32Vals_set (by omega)) ?_
              intro w617 b618 hg619; have z620 := hg619.size
              have b621 := (b612.grownN hg619 (by omega))
              have b622 := (b613.grownN hg619 (by omega))
              have b623 := (b614.grownN hg619 (by omega))
              refine ⟨⟨fun h => absurd h (by decide), fun _ => ⟨b621, b622, b623⟩⟩, ?_⟩
              refine gp 51 (.pointer (some ⟨g125, 0 + pc, none⟩)) F616 rfl rfl (fun W => (rn_indexArr Tryd.underlying89 inf79 (F616.get rfl) (F616.get rfl) (by omega : (0 : Int) ≤ (pc : Nat)) (by omega : ((pc : Nat) : Int) < ((16 : Nat) : Int)))) fun _ F625 => ?_; clear F616
              refine anyg_one (i := 52) (by decide +kernel) rfl ?_
              refine o_store1 (new := (u32Vals (((v2.set pa ((mix4 (v2.getD pa 0) (v2.getD pb 0) (v2.getD pc 0) (v2.getD pd 0) (m.getD ((permRow r).getD (2 * i2) 0) 0) (m.getD ((permRow r).getD ((2 * i2) + 1) 0) 0)).a)).set pb ((mix4 (v2.getD pa 0) (v2.getD pb 0) (v2.getD pc 0) (v2.getD pd 0) (m.getD ((permRow r).getD (2 * i2) 0) 0) (m.getD ((permRow r).getD ((2 * i2) + 1) 0) 0)).b)).set pc ((mix4 (v2.getD pa 0) (v2.getD pb 0) (v2.getD pc 0) (v2.getD pd 0) (m.getD ((permRow r).getD (2 * i2) 0) 0) (m.getD ((permRow r).getD ((2 * i2) + 1) 0) 0)).c)))) F625 rfl rfl rfl rfl (F625.get rfl) (F625.get rfl) b618 inf79 (by rw [u32Vals_len (show List.length ((v2.set pa ((mix4 (v2.getD pa 0) (v2.getD pb 0) (v2.getD pc 0) (v2.getD pd 0) (m.getD ((permRow r).getD (2 * i2) 0) 0) (m.getD ((permRow r).getD ((2 * i2) + 1) 0) 0)).a)).set pb ((mix4 (v2.getD pa 0) (v2.getD pb 0) (v2.getD pc 0) (v2.getD pd 0) (m.getD ((permRow r).getD (2 * i2) 0) 0) (m.getD ((permRow r).getD ((2 * i2) + 1) 0) 0)).b)) = _ from List.length_set.trans (show List.length (v2.set pa ((mix4 (v2.getD pa 0) (v2.getD pb 0) (v2.getD pc 0) (v2.getD pd 0) (m.getD ((permRow r).getD (2 * i2) 0) 0) (m.getD ((permRow r).getD ((2 * i2) + 1) 0) 0)).a)) = _ from List.length_set.trans hvl2))]; omega) rfl (u32Vals_set (by omega)) ?_
              intro w626 b627 hg628; have z629 := hg628.size
              have b630 := (b621.grownN hg628 (by omega))
              have b631 := (b622.grownN hg628 (by omega))
              have b632 := (b623.grownN hg628 (by omega))
              refine ⟨⟨fun h => absurd h (by decide), fun _ => ⟨b630, b631, b632⟩⟩, ?_⟩
              refine gp 53 (.pointer (some ⟨g125, 0 + pd, none⟩)) F625 rfl rfl (fun W => (rn_indexArr Tryd.underlying89 inf79 (F625.get rfl) (F625.get rfl) (by omega : (0 : Int) ≤ (pd : Nat)) (by omega : ((pd : Nat) : Int) < ((16 : Nat) : Int)))) fun _ F634 => ?_; clear F625
              refine anyg_one (i := 54) (by decide +kernel) rfl ?_
              refine o_store1 (new := (u32Vals ((((v2.set pa ((mix4 (v2.getD pa 0) (v2.getD pb 0) (v2.getD pc 0) (v2.getD pd 0) (m.getD ((permRow r).getD (2 * i2) 0) 0) (m.getD ((permRow r).getD ((2 * i2) + 1) 0) 0)).a)).set pb ((mix4 (v2.getD pa 0) (v2.getD pb 0) (v2.getD pc 0) (v2.getD pd 0) (m.getD ((permRow r).getD (2 * i2) 0) 0) (m.getD ((permRow r).getD ((2 * i2) + 1) 0) 0)).b)).set pc ((mix4 (v2.getD pa 0) (v2.getD pb 0) (v2.getD pc 0) (v2.getD pd 0) (m.getD ((permRow r).getD (2 * i2) 0) 0) (m.getD ((permRow r).getD ((2 * i2) + 1) 0) 0)).c)).set pd ((mix4 (v2.getD pa 0) (v2.getD pb 0) (v2.getD pc 0) (v2.getD pd 0) (m.getD ((permRow r).getD (2 * i2) 0) 0) (m.getD ((permRow r).getD ((2 * i2) + 1) 0) 0)).d)))) F634 rfl rfl rfl rfl (F634.get rfl) (F634.get rfl) b627 inf79 (by rw [u32Vals_len (show List.length (((v2.set pa ((mix4 (v2.getD pa 0) (v2.getD pb 0) (v2.getD pc 0) (v2.getD pd 0) (m.getD ((permRow r).getD (2 * i2) 0) 0) (m.getD ((permRow r).getD ((2 * i2) + 1) 0) 0)).a)).set pb ((mix4 (v2.getD pa 0) (v2.getD pb 0) (v2.getD pc 0) (v2.getD pd 0) (m.getD ((permRow r).getD (2 * i2) 0) 0) (m.getD ((permRow r).getD ((2 * i2) + 1) 0) 0)).b)).set pc ((mix4 (v2.getD pa 0) (v2.getD pb 0) (v2.getD pc 0) (v2.getD pd 0) (m.getD ((permRow r).getD (2 * i2) 0) 0) (m.getD ((permRow r).getD ((2 * i2) + 1) 0) 0)).c)) = _ from List.length_set.trans (show List.length ((v2.set pa ((mix4 (v2.getD pa 0) (v2.getD pb 0) (v2.getD pc 0) (v2.getD pd 0) (m.getD ((permRow r).getD (2 * i2) 0) 0) (m.getD ((permRow r).getD ((2 * i2) + 1) 0) 0)).a)).set pb ((mix4 (v2.getD pa 0) (v2.getD pb 0) (v2.getD pc 0) (v2.getD pd 0) (m.getD ((permRow r).getD (2 * i2) 0) 0) (m.getD ((permRow r).getD ((2 * i2) + 1) 0) 0)).b)) = _ from List.length_set.trans (show List.length (v2.set pa ((mix4 (v2.getD pa 0) (v2.getD pb 0) (v2.getD pc 0) (v2.getD pd 0) (m.getD ((permRow r).getD (2 * i2) 0) 0) (m.getD ((permRow r).getD ((2 * i2) + 1) 0) 0)).a)) = _ from List.length_set.trans hvl2)))]; omega) rfl (u32Vals_set (by omega)) ?_
              intro w635 b636 hg637; have z638 := hg637.size
              have b639 := (b630.grownN hg637 (by omega))
              have b640 := (b631.grownN hg637 (by omega))
              have b641 := (b632.grownN hg637 (by omega))
              refine ⟨⟨fun h => absurd h (by decide), fun _ => ⟨b639, b640, b641⟩⟩, ?_⟩
              refine anyg_nil (by decide +kernel) ?_
              refine hK383 _ _ ?_
              clear hK383
              have F642 := (((((((((((((((((((((F634.nil.c F634 18 rfl).c F634 17 rfl).c F634 83 rfl).c F634 16 rfl).c F634 79 rfl).c F634 15 rfl).c F634 14 rfl).c F634 72 rfl).c F634 45 rfl).c F634 13 rfl).c F634 12 rfl).c F634 11 rfl).c F634 22 rfl).c F634 10 rfl).c F634 9 rfl).c F634 8 rfl).c F634 4 rfl).c F634 3 rfl).c F634 2 rfl).c F634 1 rfl).c F634 0 rfl)
              clear F634
              refine wp_region_lit ?_
              refine qv 0 (.int .i64 (i2 : Nat)) F642 rfl (rn_move (F642.get rfl)) fun _ F644 => ?_; clear F642
              refine qv 1 (.int .i64 (i2 + 1 : Nat)) F644 rfl (rn_addN (a := i2) (b := 1) (F644.get rfl) rfl (by omega)) fun _ F646 => ?_; clear F644
              refine qv 2 (.int .i64 (i2 + 1 : Nat)) F646 rfl (rn_assign (F646.get rfl)) fun _ F648 => ?_; clear F646
              refine wpList_nil ?_
              obtain ⟨v649, e650⟩ : ∃ z, z = (((v2.set pa ((mix4 (v2.getD pa 0) (v2.getD pb 0) (v2.getD pc 0) (v2.getD pd 0) (m.getD ((permRow r).getD (2 * i2) 0) 0) (m.getD ((permRow r).getD ((2 * i2) + 1) 0) 0)).a)).set pb ((mix4 (v2.getD pa 0) (v2.getD pb 0) (v2.getD pc 0) (v2.getD pd 0) (m.getD ((permRow r).getD (2 * i2) 0) 0) (m.getD ((permRow r).getD ((2 * i2) + 1) 0) 0)).b)).set pc ((mix4 (v2.getD pa 0) (v2.getD pb 0) (v2.getD pc 0) (v2.getD pd 0) (m.getD ((permRow r).getD (2 * i2) 0) 0) (m.getD ((permRow r).getD ((2 * i2) + 1) 0) 0)).c)).set pd ((mix4 (v2.getD pa 0) (v2.getD pb 0) (v2.getD pc 0) (v2.getD pd 0) (m.getD ((permRow r).getD (2 * i2) 0) 0) (m.getD ((permRow r).getD ((2 * i2) + 1) 0) 0)).d) := ⟨_, rfl⟩
              have hl651 : v649.length = 16 := (congrArg List.length e650).trans (show List.length ((((v2.set pa ((mix4 (v2.getD pa 0) (v2.getD pb 0) (v2.getD pc 0) (v2.getD pd 0) (m.getD ((permRow r).getD (2 * i2) 0) 0) (m.getD ((permRow r).getD ((2 * i2) + 1) 0) 0)).a)).set pb ((mix4 (v2.getD pa 0) (v2.getD pb 0) (v2.getD pc 0) (v2.getD pd 0) (m.getD ((permRow r).getD (2 * i2) 0) 0) (m.getD ((permRow r).getD ((2 * i2) + 1) 0) 0)).b)).set pc ((mix4 (v2.getD pa 0) (v2.getD pb 0) (v2.getD pc 0) (v2.getD pd 0) (m.getD ((permRow r).getD (2 * i2) 0) 0) (m.getD ((permRow r).getD ((2 * i2) + 1) 0) 0)).c)).set pd ((mix4 (v2.getD pa 0) (v2.getD pb 0) (v2.getD pc 0) (v2.getD pd 0) (m.getD ((permRow r).getD (2 * i2) 0) 0) (m.getD ((permRow r).getD ((2 * i2) + 1) 0) 0)).d)) = _ from List.length_set.trans (show List.length (((v2.set pa ((mix4 (v2.getD pa 0) (v2.getD pb 0) (v2.getD pc 0) (v2.getD pd 0) (m.getD ((permRow r).getD (2 * i2) 0) 0) (m.getD ((permRow r).getD ((2 * i2) + 1) 0) 0)).a)).set pb ((mix4 (v2.getD pa 0) (v2.getD pb 0) (v2.getD pc 0) (v2.getD pd 0) (m.getD ((permRow r).getD (2 * i2) 0) 0) (m.getD ((permRow r).getD ((2 * i2) + 1) 0) 0)).b)).set pc ((mix4 (v2.getD pa 0) (v2.getD pb 0) (v2.getD pc 0) (v2.getD pd 0) (m.getD ((permRow r).getD (2 * i2) 0) 0) (m.getD ((permRow r).getD ((2 * i2) + 1) 0) 0)).c)) = _ from List.length_set.trans (show List.length ((v2.set pa ((mix4 (v2.getD pa 0) (v2.getD pb 0) (v2.getD pc 0) (v2.getD pd 0) (m.getD ((permRow r).getD (2 * i2) 0) 0) (m.getD ((permRow r).getD ((2 * i2) + 1) 0) 0)).a)).set pb ((mix4 (v2.getD pa 0) (v2.getD pb 0) (v2.getD pc 0) (v2.getD pd 0) (m.getD ((permRow r).getD (2 * i2) 0) 0) (m.getD ((permRow r).getD ((2 * i2) + 1) 0) 0)).b)) = _ from List.length_set.trans (show List.length (v2.set pa ((mix4 (v2.getD pa 0) (v2.getD pb 0) (v2.getD pc 0) (v2.getD pd 0) (m.getD ((permRow r).getD (2 * i2) 0) 0) (m.getD ((permRow r).getD ((2 * i2) + 1) 0) 0)).a)) = _ from List.length_set.trans hvl2))))
              rw [← e650] at b636
              have b652 := ((((((b477.ext hx494).ext hx588).grownN hg610 (by omega)).grownN hg619 (by omega)).grownN hg628 (by omega)).grownN hg637 (by omega))
              have b653 := ((((((b478.ext hx494).ext hx588).grownN hg610 (by omega)).grownN hg619 (by omega)).grownN hg628 (by omega)).grownN hg637 (by omega))
              have b654 := ((((((b481.ext hx494).ext hx588).grownN hg610 (by omega)).grownN hg619 (by omega)).grownN hg628 (by omega)).grownN hg637 (by omega))
              refine ⟨⟨(i2 + 1), v649, ((((((((((((((((((F648.nil.cons (q_get F648 (t := 16) rfl (by first | rfl | (congr 1; omega) | (congr 1; done)))).cons (q_get F648 (t := 79) rfl rfl)).cons (q_get F648 (t := 15) rfl rfl)).cons (q_get F648 (t := 14) rfl rfl)).cons (q_get F648 (t := 72) rfl rfl)).cons (q_get F648 (t := 45) rfl rfl)).cons (q_get F648 (t := 13) rfl rfl)).cons (q_get F648 (t := 12) rfl rfl)).cons (q_get F648 (t := 11) rfl rfl)).cons (q_get F648 (t := 22) rfl rfl)).cons (q_get F648 (t := 10) rfl rfl)).cons (q_get F648 (t := 9) rfl rfl)).cons (q_get F648 (t := 8) rfl rfl)).cons (q_get F648 (t := 4) rfl rfl)).cons (q_get F648 (t := 3) rfl rfl)).cons (q_get F648 (t := 2) rfl rfl)).cons (q_get F648 (t := 1) rfl rfl)).cons (q_get F648 (t := 0) rfl rfl)), (by omega), (mixTo_r hp360 pm475 rfl e650), ((((((((Ext.refl w).trans hx474).trans hx494).trans hx588).grownN hg610 (by omega)).grownN hg619 (by omega)).grownN hg628 (by omega)).grownN hg637 (by omega)), b652, b653, b641, b636, b654, b640, (by omega)⟩, ?_⟩
              rw [F648.get (t := 16) rfl, hL368.get (t := 16) rfl]; simp [intOf] <;> omega
          · skip
            refine wp_cond_false (c_false F381 rfl (decide_eq_false hc382)) ?_
            refine wp_exit ?_
            refine exit_then ?_
            refine exit_then ?_
            refine exit_here ?_
            refine hK351 _ _ ?_
            clear hK351
            refine wp_region_lit ?_
            refine qv 0 (.int .i64 (r : Nat)) F381 rfl (rn_move (F381.get rfl)) fun _ F656 => ?_; clear F381
            refine qv 1 (.int .i64 (r + 1 : Nat)) F656 rfl (rn_addN (a := r) (b := 1) (F656.get rfl) rfl (by omega)) fun _ F658 => ?_; clear F656
            refine qv 2 (.int .i64 (r + 1 : Nat)) F658 rfl (rn_assign (F658.get rfl)) fun _ F660 => ?_; clear F658
            refine wpList_nil ?_
            refine ⟨⟨(r + 1), v2, ((((((((((((((((F660.nil.cons (q_get F660 (t := 15) rfl (by first | rfl | (congr 1; omega) | (congr 1; done)))).cons (q_get F660 (t := 14) rfl rfl)).cons (q_get F660 (t := 72) rfl rfl)).cons (q_get F660 (t := 45) rfl rfl)).cons (q_get F660 (t := 13) rfl rfl)).cons (q_get F660 (t := 12) rfl rfl)).cons (q_get F660 (t := 11) rfl rfl)).cons (q_get F660 (t := 22) rfl rfl)).cons (q_get F660 (t := 10) rfl rfl)).cons (q_get F660 (t := 9) rfl rfl)).cons (q_get F660 (t := 8) rfl rfl)).cons (q_get F660 (t := 4) rfl rfl)).cons (q_get F660 (t := 3) rfl rfl)).cons (q_get F660 (t := 2) rfl rfl)).cons (q_get F660 (t := 1) rfl rfl)).cons (q_get F660 (t := 0) rfl rfl)), (by omega), (roundTo_step (by omega) hp328 (by rw [hp360, show i2 = 8 by omega])), ((Ext.refl w).trans hx358), b361, b362, b363, b364, b365, b366, (by omega)⟩, ?_⟩
            rw [F660.get (t := 15) rfl, hL336.get (t := 15) rfl]; simp [intOf] <;> omega
        · skip
          refine wp_cond_false (c_false F349 rfl (decide_eq_false hc350)) ?_
          refine wp_exit ?_
          refine exit_then ?_
          refine exit_then ?_
          refine exit_here ?_
          refine hK311 _ _ ?_
          clear hK311
          refine wp_seq_k (fun K661 hK661 => ?_)
          refine wp_seq_k (fun K662 hK662 => ?_)
          refine wp_region_lit ?_
          refine qv 0 (.int .i64 0) F349 rfl (rn_assign rfl) fun _ F664 => ?_; clear F349
          refine wpList_nil ?_
          refine hK662 _ _ ?_
          clear hK662
          refine wp_block ?_
          have hv10 : v = roundTo (words b) (begin_ h n last) 10 := by rw [hp328, hv1, hmw, show r = 10 from by omega]
          refine wp_loop (fun a' W => ∃ (k5 : Nat) (hh2 : List UInt32), Sl 182 [(0, (.agg (u32Vals h).toArray)), (1, (.slice A 64 c)), (2, (.int .u64 (n.toNat : Nat))), (3, (.bool last)), (4, (.pointer (some ⟨g2, 0, none⟩))), (8, (.pointer (some ⟨g10, 0, none⟩))), (9, (.pointer (some ⟨g21, 0, none⟩))), (10, (.int .i64 (k : Nat))), (22, (.bool (decide (((k : Nat) : Int) < (64 : Int))))), (11, (.pointer (some ⟨g125, 0, none⟩))), (12, (.pointer (some ⟨g143, 0, none⟩))), (13, (.int .i64 (k1 : Nat))), (45, (.bool (decide (((k1 : Nat) : Int) < (8 : Int))))), (72, (.bool last)), (14, (.pointer (some ⟨g299, 0, none⟩))), (15, (.int .i64 (r : Nat))), (79, (.bool (decide (((r : Nat) : Int) < (10 : Int))))), (19, (.int .i64 (k5 : Nat)))] a' ∧ k5 ≤ 8 ∧ hh2 = closeTo v h k5 ∧ Ext w W ∧ Blk W g2 80 (u32Vals hh2) ∧ Blk W g10 80 (u32Vals (List.replicate 8 0)) ∧ Blk W g21 89 (u32Vals m) ∧ Blk W g125 89 (u32Vals v) ∧ Blk W g143 80 (u32Vals iv) ∧ Blk W g299 98 (intVals permI) ∧ w324.heap.size ≤ W.heap.size) (fun a' _ => 8 - (intOf (a'.eval (.tmp 19))).toNat) ⟨0, h, ((((((((((((((((((F664.nil.cons (q_get F664 (t := 19) rfl (by first | rfl | (congr 1; omega) | (congr 1; done)))).cons (q_get F664 (t := 79) rfl rfl)).cons (q_get F664 (t := 15) rfl rfl)).cons (q_get F664 (t := 14) rfl rfl)).cons (q_get F664 (t := 72) rfl rfl)).cons (q_get F664 (t := 45) rfl rfl)).cons (q_get F664 (t := 13) rfl rfl)).cons (q_get F664 (t := 12) rfl rfl)).cons (q_get F664 (t := 11) rfl rfl)).cons (q_get F664 (t := 22) rfl rfl)).cons (q_get F664 (t := 10) rfl rfl)).cons (q_get F664 (t := 9) rfl rfl)).cons (q_get F664 (t := 8) rfl rfl)).cons (q_get F664 (t := 4) rfl rfl)).cons (q_get F664 (t := 3) rfl rfl)).cons (q_get F664 (t := 2) rfl rfl)).cons (q_get F664 (t := 1) rfl rfl)).cons (q_get F664 (t := 0) rfl rfl)), (by omega), rfl, ((Ext.refl w).trans hx326), b329, b330, b331, b332, b333, b334, (Nat.le_refl _)⟩ ?_
          clear F664
          rintro a665 w666 ⟨k5, hh2, F667, hp669, hp670, hx668, b671, b672, b673, b674, b675, b676, hf677⟩
          have hL678 := F667
          have z679 := hx668.size
          have z680 := b671.lt
          have z681 := b672.lt
          have z682 := b673.lt
          have z683 := b674.lt
          have z684 := b675.lt
          have z685 := b676.lt
          have hhl : hh2.length = 8 := by rw [hp670]; exact closeTo_len hh
          refine wp_seq_k (fun K686 hK686 => ?_)
          refine wp_seq_k (fun K687 hK687 => ?_)
          refine wp_region_lit ?_
          refine qv 0 (.int .i64 (k5 : Nat)) F667 rfl (rn_move (F667.get rfl)) fun _ F689 => ?_; clear F667
          refine qv 1 (.bool (decide (((k5 : Nat) : Int) < (8 : Int)))) F689 rfl (rn_lss (F689.get rfl) rfl) fun _ F691 => ?_; clear F689
          refine wpList_nil ?_
          refine hK687 _ _ ?_
          clear hK687
          by_cases hc692 : ((k5 : Nat) : Int) < (8 : Int)
          · skip
            refine wp_cond_true (c_true F691 rfl (decide_eq_true hc692)) ?_
            refine wp_skip ?_
            refine hK686 _ _ ?_
            clear hK686
            refine wp_seq_k (fun K693 hK693 => ?_)
            refine wp_block ?_
            have hx695 : ∃ W, w666.drew = W ∧ Ext w666 W := ⟨_, rfl, (Ext.refl _).drew⟩
            obtain ⟨w694, e696, hx695⟩ := hx695
            have z697 := hx695.size
            refine any_start (fun W => Ext w694 W ∧ Blk W g2 80 (u32Vals hh2) ∧ Blk W g125 89 (u32Vals v)) (fun i => i == 14) 15 #[false, false, false, false, false, false, false, false, false, false, false, false, false, false, false] rfl rfl rfl ?_
            rw [e696]; clear e696
            refine qp 0 (.int .i64 (k5 : Nat)) F691 rfl rfl (fun W => (rn_move (F691.get rfl))) fun _ F699 => ?_; clear F691
            refine qp 1 (.int .i64 (k5 : Nat)) F699 rfl rfl (fun W => (rn_move (F699.get rfl))) fun _ F701 => ?_; clear F699
            refine qp 2 (.pointer (some ⟨g2, 0 + k5, none⟩)) F701 rfl rfl (fun W => (rn_indexArr Tryd.underlying80 inf79 (F701.get rfl) (F701.get rfl) (by omega : (0 : Int) ≤ (k5 : Nat)) (by omega : ((k5 : Nat) : Int) < ((8 : Nat) : Int)))) fun _ F703 => ?_; clear F701
            have b705 := (b671.ext hx695)
            have b706 := (b674.ext hx695)
            have hS704 : Ext w694 w694 ∧ Blk w694 g2 80 (u32Vals hh2) ∧ Blk w694 g125 89 (u32Vals v) := ⟨(Ext.refl w694), b705, b706⟩
            refine qs 3 (.int .u32 ((hh2.getD k5 0).toNat : Nat)) F703 rfl rfl hS704 (fun W hW => (rn_load (isAgg_no Tryd.underlying79 rfl) (F703.get rfl) (blk_word hW.2.1 (by omega) (by have := (show List.length hh2 = _ from hhl); omega)))) fun _ F708 => ?_; clear F703
            refine qp 4 (.int .i64 (k5 : Nat)) F708 rfl rfl (fun W => (rn_move (F708.get rfl))) fun _ F710 => ?_; clear F708
            refine qp 5 (.pointer (some ⟨g125, 0 + k5, none⟩)) F710 rfl rfl (fun W => (rn_indexArr Tryd.underlying89 inf79 (F710.get rfl) (F710.get rfl) (by omega : (0 : Int) ≤ (k5 : Nat)) (by omega : ((k5 : Nat) : Int) < ((16 : Nat) : Int)))) fun _ F712 => ?_; clear F710
            refine qs 6 (.int .u32 ((v.getD k5 0).toNat : Nat)) F712 rfl rfl hS704 (fun W hW => (rn_load (isAgg_no Tryd.underlying79 rfl) (F712.get rfl) (blk_word hW.2.2 (by omega) (by have := (show List.length v = _ from hvl); omega)))) fun _ F714 => ?_; clear F712
            refine qp 7 (.int .u32 (((hh2.getD k5 0) ^^^ (v.getD k5 0)).toNat : Nat)) F714 rfl rfl (fun W => (rn_xor32 (a := (hh2.getD k5 0)) (b := (v.getD k5 0)) (F714.get rfl) (F714.get rfl))) fun _ F716 => ?_; clear F714
            refine qp 8 (.int .i64 (k5 : Nat)) F716 rfl rfl (fun W => (rn_move (F716.get rfl))) fun _ F718 => ?_; clear F716
            refine qp 9 (.int .i64 (8 + k5 : Nat)) F718 rfl rfl (fun W => (rn_addN (a := 8) (b := k5) rfl (F718.get rfl) (by omega))) fun _ F720 => ?_; clear F718
            refine qp 10 (.pointer (some ⟨g125, 0 + (8 + k5), none⟩)) F720 rfl rfl (fun W => (rn_indexArr Tryd.underlying89 inf79 (F720.get rfl) (F720.get rfl) (by omega : (0 : Int) ≤ (8 + k5 : Nat)) (by omega : ((8 + k5 : Nat) : Int) < ((16 : Nat) : Int)))) fun _ F722 => ?_; clear F720
            refine qs 11 (.int .u32 ((v.getD (8 + k5) 0).toNat : Nat)) F722 rfl rfl hS704 (fun W hW => (rn_load (isAgg_no Tryd.underlying79 rfl) (F722.get rfl) (blk_word hW.2.2 (by omega) (by have := (show List.length v = _ from hvl); omega)))) fun _ F724 => ?_; clear F722
            refine qp 12 (.int .u32 ((((hh2.getD k5 0) ^^^ (v.getD k5 0)) ^^^ (v.getD (8 + k5) 0)).toNat : Nat)) F724 rfl rfl (fun W => (rn_xor32 (a := ((hh2.getD k5 0) ^^^ (v.getD k5 0))) (b := (v.getD (8 + k5) 0)) (F724.get rfl) (F724.get rfl))) fun _ F726 => ?_; clear F724
            refine qp 13 (.pointer (some ⟨g2, 0 + k5, none⟩)) F726 rfl rfl (fun W => (rn_indexArr Tryd.underlying80 inf79 (F726.get rfl) (F726.get rfl) (by omega : (0 : Int) ≤ (k5 : Nat)) (by omega : ((k5 : Nat) : Int) < ((8 : Nat) : Int)))) fun _ F728 => ?_; clear F726
            refine any_one (i := 14) (by decide +kernel) rfl ?_
            refine o_store1 (new := (u32Vals (hh2.set k5 (((hh2.getD k5 0) ^^^ (v.getD k5 0)) ^^^ (v.getD (8 + k5) 0))))) F728 rfl rfl rfl rfl (F728.get rfl) (F728.get rfl) b705 inf79 (by rw [u32Vals_len hhl]; omega) rfl (u32Vals_set (by omega)) ?_
            intro w729 b730 hg731; have z732 := hg731.size
            refine ⟨fun h => absurd h (by decide), ?_⟩
            refine any_nil (by decide +kernel) ?_
            refine hK693 _ _ ?_
            clear hK693
            have F733 := (((((((((((((((((((F728.nil.c F728 164 rfl).c F728 19 rfl).c F728 79 rfl).c F728 15 rfl).c F728 14 rfl).c F728 72 rfl).c F728 45 rfl).c F728 13 rfl).c F728 12 rfl).c F728 11 rfl).c F728 22 rfl).c F728 10 rfl).c F728 9 rfl).c F728 8 rfl).c F728 4 rfl).c F728 3 rfl).c F728 2 rfl).c F728 1 rfl).c F728 0 rfl)
            clear F728
            refine wp_region_lit ?_
            refine qv 0 (.int .i64 (k5 : Nat)) F733 rfl (rn_move (F733.get rfl)) fun _ F735 => ?_; clear F733
            refine qv 1 (.int .i64 (k5 + 1 : Nat)) F735 rfl (rn_addN (a := k5) (b := 1) (F735.get rfl) rfl (by omega)) fun _ F737 => ?_; clear F735
            refine qv 2 (.int .i64 (k5 + 1 : Nat)) F737 rfl (rn_assign (F737.get rfl)) fun _ F739 => ?_; clear F737
            refine wpList_nil ?_
            obtain ⟨v740, e741⟩ : ∃ z, z = hh2.set k5 (((hh2.getD k5 0) ^^^ (v.getD k5 0)) ^^^ (v.getD (8 + k5) 0)) := ⟨_, rfl⟩
            have hl742 : v740.length = 8 := (congrArg List.length e741).trans (show List.length (hh2.set k5 (((hh2.getD k5 0) ^^^ (v.getD k5 0)) ^^^ (v.getD (8 + k5) 0))) = _ from List.length_set.trans hhl)
            rw [← e741] at b730
            have b743 := ((b672.ext hx695).grownN hg731 (by omega))
            have b744 := ((b673.ext hx695).grownN hg731 (by omega))
            have b745 := (b706.grownN hg731 (by omega))
            have b746 := ((b675.ext hx695).grownN hg731 (by omega))
            have b747 := ((b676.ext hx695).grownN hg731 (by omega))
            refine ⟨⟨(k5 + 1), v740, ((((((((((((((((((F739.nil.cons (q_get F739 (t := 19) rfl (by first | rfl | (congr 1; omega) | (congr 1; done)))).cons (q_get F739 (t := 79) rfl rfl)).cons (q_get F739 (t := 15) rfl rfl)).cons (q_get F739 (t := 14) rfl rfl)).cons (q_get F739 (t := 72) rfl rfl)).cons (q_get F739 (t := 45) rfl rfl)).cons (q_get F739 (t := 13) rfl rfl)).cons (q_get F739 (t := 12) rfl rfl)).cons (q_get F739 (t := 11) rfl rfl)).cons (q_get F739 (t := 22) rfl rfl)).cons (q_get F739 (t := 10) rfl rfl)).cons (q_get F739 (t := 9) rfl rfl)).cons (q_get F739 (t := 8) rfl rfl)).cons (q_get F739 (t := 4) rfl rfl)).cons (q_get F739 (t := 3) rfl rfl)).cons (q_get F739 (t := 2) rfl rfl)).cons (q_get F739 (t := 1) rfl rfl)).cons (q_get F739 (t := 0) rfl rfl)), (by omega), (closeTo_r hp670 e741), ((((Ext.refl w).trans hx668).trans hx695).grownN hg731 (by omega)), b730, b743, b744, b745, b746, b747, (by omega)⟩, ?_⟩
            rw [F739.get (t := 19) rfl, hL678.get (t := 19) rfl]; simp [intOf] <;> omega
          · skip
            refine wp_cond_false (c_false F691 rfl (decide_eq_false hc692)) ?_
            refine wp_exit ?_
            refine exit_then ?_
            refine exit_then ?_
            refine exit_here ?_
            refine hK661 _ _ ?_
            clear hK661
            refine wp_seq_k (fun K748 hK748 => ?_)
            refine wp_region_lit ?_
            refine qv 0 (.agg (u32Vals hh2).toArray) F691 rfl (rn_loadBlk (F691.get rfl) b671 Tryd.underlying80 rfl (inf80.trans (congrArg some (u32Vals_len hhl).symm))) fun _ F750 => ?_; clear F691
            refine wpl_op (i := 1) rfl (o_store (cells := (u32Vals hh2)) F750 rfl rfl rfl rfl (F750.get rfl) (F750.get rfl) b672 (inf80.trans (congrArg some (u32Vals_len hhl).symm)) ((u32Vals_len (show List.length (List.replicate 8 0) = _ from List.length_replicate)).trans (u32Vals_len hhl).symm) (u32Vals_one _) ?_)
            intro w751 b752 hg753; have z754 := hg753.size
            refine wpList_nil ?_
            refine hK748 _ _ ?_
            clear hK748
            refine wp_ret ?_
            refine retC F750 rfl rfl b752 Tryd.underlying80 rfl (inf80.trans (congrArg some (u32Vals_len hhl).symm)) ?_
            have hk8 : k5 = 8 := by omega
            subst hk8
            exact ⟨by rw [absorb_eq hv10 hp670], (((Ext.refl w).trans hx668).grownN hg753 (by omega))⟩
      · skip
        refine wp_cond_false (c_false F278 rfl hc279) ?_
        refine wp_skip ?_
        refine hK275 _ _ ?_
        clear hK275
        refine wp_seq_k (fun K755 hK755 => ?_)
        refine wp_region_lit ?_
        refine wpl_op (i := 0) rfl (o_call F278 rfl rfl rfl rfl (rn_call (args0 ) rfl (by kernel_rfl)) (rperm_any _) ?_)
        rintro _ w756 ⟨rfl, hx757⟩
        refine ⟨_, rfl, ?_⟩; intro a758 F759; clear F278; have z760 := hx757.size
        refine wpl_op (i := 1) rfl (o_new (fun g => (.pointer (some ⟨g, 0, none⟩))) (intVals (List.replicate 160 0)) 98 F759 rfl rfl rfl rfl (by kernel_rfl) ?_)
        intro g761 w762 a767 F768 z765 z766 b763 hx764; clear F759
        refine wpl_op (i := 2) rfl (o_store (cells := (intVals permI)) F768 rfl rfl rfl rfl (F768.get rfl) (F768.get rfl) b763 (inf98.trans (congrArg some (intVals_len permI_len).symm)) ((intVals_len (show List.length (List.replicate 160 0) = _ from List.length_replicate)).trans (intVals_len permI_len).symm) (intVals_one _) ?_)
        intro w769 b770 hg771; have z772 := hg771.size
        refine wpList_nil ?_
        refine hK755 _ _ ?_
        clear hK755
        refine wp_seq_k (fun K773 hK773 => ?_)
        refine wp_seq_k (fun K774 hK774 => ?_)
        refine wp_region_lit ?_
        refine qv 0 (.int .i64 0) F768 rfl (rn_assign rfl) fun _ F776 => ?_; clear F768
        refine wpList_nil ?_
        refine hK774 _ _ ?_
        clear hK774
        refine wp_block ?_
        have hv0 : v0 = h ++ iv := vTo_done hh (by rw [hp168, show k1 = 8 by omega])
        have b780 := (((b271.ext hx757).ext hx764).grownN hg771 (by omega))
        obtain ⟨v777, e778⟩ : ∃ z, z = (v0.set 12 ((v0.getD 12 0) ^^^ n.toUInt32)).set 13 (((v0.set 12 ((v0.getD 12 0) ^^^ n.toUInt32)).getD 13 0) ^^^ ((n >>> UInt64.ofNat 32).toUInt32)) := ⟨_, rfl⟩
        have hl779 : v777.length = 16 := (congrArg List.length e778).trans (show List.length ((v0.set 12 ((v0.getD 12 0) ^^^ n.toUInt32)).set 13 (((v0.set 12 ((v0.getD 12 0) ^^^ n.toUInt32)).getD 13 0) ^^^ ((n >>> UInt64.ofNat 32).toUInt32))) = _ from List.length_set.trans (show List.length (v0.set 12 ((v0.getD 12 0) ^^^ n.toUInt32)) = _ from List.length_set.trans hvl0))
        rw [← e778] at b780
        have hv1 : v777 = begin_ h n last := by rw [e778, hv0, hc279]; exact begin_false
        have b781 := (((((b169.grownN hg252 (by omega)).grownN hg272 (by omega)).ext hx757).ext hx764).grownN hg771 (by omega))
        have b782 := (((((b170.grownN hg252 (by omega)).grownN hg272 (by omega)).ext hx757).ext hx764).grownN hg771 (by omega))
        have b783 := (((((b171.grownN hg252 (by omega)).grownN hg272 (by omega)).ext hx757).ext hx764).grownN hg771 (by omega))
        have b784 := (((((b173.grownN hg252 (by omega)).grownN hg272 (by omega)).ext hx757).ext hx764).grownN hg771 (by omega))
        refine wp_loop (fun a' W => ∃ (r : Nat) (v : List UInt32), Sl 182 [(0, (.agg (u32Vals h).toArray)), (1, (.slice A 64 c)), (2, (.int .u64 (n.toNat : Nat))), (3, (.bool last)), (4, (.pointer (some ⟨g2, 0, none⟩))), (8, (.pointer (some ⟨g10, 0, none⟩))), (9, (.pointer (some ⟨g21, 0, none⟩))), (10, (.int .i64 (k : Nat))), (22, (.bool (decide (((k : Nat) : Int) < (64 : Int))))), (11, (.pointer (some ⟨g125, 0, none⟩))), (12, (.pointer (some ⟨g143, 0, none⟩))), (13, (.int .i64 (k1 : Nat))), (45, (.bool (decide (((k1 : Nat) : Int) < (8 : Int))))), (72, (.bool last)), (14, (.pointer (some ⟨g761, 0, none⟩))), (15, (.int .i64 (r : Nat)))] a' ∧ r ≤ 10 ∧ v = roundTo m v777 r ∧ Ext w W ∧ Blk W g2 80 (u32Vals h) ∧ Blk W g10 80 (u32Vals (List.replicate 8 0)) ∧ Blk W g21 89 (u32Vals m) ∧ Blk W g125 89 (u32Vals v) ∧ Blk W g143 80 (u32Vals iv) ∧ Blk W g761 98 (intVals permI) ∧ w769.heap.size ≤ W.heap.size) (fun a' _ => 10 - (intOf (a'.eval (.tmp 15))).toNat) ⟨0, v777, ((((((((((((((((F776.nil.cons (q_get F776 (t := 15) rfl (by first | rfl | (congr 1; omega) | (congr 1; done)))).cons (q_get F776 (t := 14) rfl rfl)).cons (q_get F776 (t := 72) rfl rfl)).cons (q_get F776 (t := 45) rfl rfl)).cons (q_get F776 (t := 13) rfl rfl)).cons (q_get F776 (t := 12) rfl rfl)).cons (q_get F776 (t := 11) rfl rfl)).cons (q_get F776 (t := 22) rfl rfl)).cons (q_get F776 (t := 10) rfl rfl)).cons (q_get F776 (t := 9) rfl rfl)).cons (q_get F776 (t := 8) rfl rfl)).cons (q_get F776 (t := 4) rfl rfl)).cons (q_get F776 (t := 3) rfl rfl)).cons (q_get F776 (t := 2) rfl rfl)).cons (q_get F776 (t := 1) rfl rfl)).cons (q_get F776 (t := 0) rfl rfl)), (by omega), rfl, (((((((Ext.refl w).trans hx166).grownN hg252 (by omega)).grownN hg272 (by omega)).trans hx757).trans hx764).grownN hg771 (by omega)), b781, b782, b783, b780, b784, b770, (Nat.le_refl _)⟩ ?_
        clear F776
        rintro a785 w786 ⟨r, v, F787, hp789, hp790, hx788, b791, b792, b793, b794, b795, b796, hf797⟩
        have hL798 := F787
        have z799 := hx788.size
        have z800 := b791.lt
        have z801 := b792.lt
        have z802 := b793.lt
        have z803 := b794.lt
        have z804 := b795.lt
        have z805 := b796.lt
        have hvl : v.length = 16 := by rw [hp790]; exact roundTo_len hl779
        refine wp_seq_k (fun K806 hK806 => ?_)
        refine wp_seq_k (fun K807 hK807 => ?_)
        refine wp_region_lit ?_
        refine qv 0 (.int .i64 (r : Nat)) F787 rfl (rn_move (F787.get rfl)) fun _ F809 => ?_; clear F787
        refine qv 1 (.bool (decide (((r : Nat) : Int) < (10 : Int)))) F809 rfl (rn_lss (F809.get rfl) rfl) fun _ F811 => ?_; clear F809
        refine wpList_nil ?_
        refine hK807 _ _ ?_
        clear hK807
        by_cases hc812 : ((r : Nat) : Int) < (10 : Int)
        · skip
          refine wp_cond_true (c_true F811 rfl (decide_eq_true hc812)) ?_
          refine wp_skip ?_
          refine hK806 _ _ ?_
          clear hK806
          refine wp_seq_k (fun K813 hK813 => ?_)
          refine wp_block ?_
          refine wp_seq_k (fun K814 hK814 => ?_)
          refine wp_region_lit ?_
          refine qv 0 (.int .i64 0) F811 rfl (rn_assign rfl) fun _ F816 => ?_; clear F811
          refine wpList_nil ?_
          refine hK814 _ _ ?_
          clear hK814
          refine wp_block ?_
          refine wp_loop (fun a' W => ∃ (i2 : Nat) (v2 : List UInt32), Sl 182 [(0, (.agg (u32Vals h).toArray)), (1, (.slice A 64 c)), (2, (.int .u64 (n.toNat : Nat))), (3, (.bool last)), (4, (.pointer (some ⟨g2, 0, none⟩))), (8, (.pointer (some ⟨g10, 0, none⟩))), (9, (.pointer (some ⟨g21, 0, none⟩))), (10, (.int .i64 (k : Nat))), (22, (.bool (decide (((k : Nat) : Int) < (64 : Int))))), (11, (.pointer (some ⟨g125, 0, none⟩))), (12, (.pointer (some ⟨g143, 0, none⟩))), (13, (.int .i64 (k1 : Nat))), (45, (.bool (decide (((k1 : Nat) : Int) < (8 : Int))))), (72, (.bool last)), (14, (.pointer (some ⟨g761, 0, none⟩))), (15, (.int .i64 (r : Nat))), (79, (.bool (decide (((r : Nat) : Int) < (10 : Int))))), (16, (.int .i64 (i2 : Nat)))] a' ∧ i2 ≤ 8 ∧ v2 = mixTo m (permRow r) v i2 ∧ Ext w W ∧ Blk W g2 80 (u32Vals h) ∧ Blk W g10 80 (u32Vals (List.replicate 8 0)) ∧ Blk W g21 89 (u32Vals m) ∧ Blk W g125 89 (u32Vals v2) ∧ Blk W g143 80 (u32Vals iv) ∧ Blk W g761 98 (intVals permI) ∧ w786.heap.size ≤ W.heap.size) (fun a' _ => 8 - (intOf (a'.eval (.tmp 16))).toNat) ⟨0, v, ((((((((((((((((((F816.nil.cons (q_get F816 (t := 16) rfl (by first | rfl | (congr 1; omega) | (congr 1; done)))).cons (q_get F816 (t := 79) rfl rfl)).cons (q_get F816 (t := 15) rfl rfl)).cons (q_get F816 (t := 14) rfl rfl)).cons (q_get F816 (t := 72) rfl rfl)).cons (q_get F816 (t := 45) rfl rfl)).cons (q_get F816 (t := 13) rfl rfl)).cons (q_get F816 (t := 12) rfl rfl)).cons (q_get F816 (t := 11) rfl rfl)).cons (q_get F816 (t := 22) rfl rfl)).cons (q_get F816 (t := 10) rfl rfl)).cons (q_get F816 (t := 9) rfl rfl)).cons (q_get F816 (t := 8) rfl rfl)).cons (q_get F816 (t := 4) rfl rfl)).cons (q_get F816 (t := 3) rfl rfl)).cons (q_get F816 (t := 2) rfl rfl)).cons (q_get F816 (t := 1) rfl rfl)).cons (q_get F816 (t := 0) rfl rfl)), (by omega), rfl, ((Ext.refl w).trans hx788), b791, b792, b793, b794, b795, b796, (Nat.le_refl _)⟩ ?_
          clear F816
          rintro a817 w818 ⟨i2, v2, F819, hp821, hp822, hx820, b823, b824, b825, b826, b827, b828, hf829⟩
          have hL830 := F819
          have z831 := hx820.size
          have z832 := b823.lt
          have z833 := b824.lt
          have z834 := b825.lt
          have z835 := b826.lt
          have z836 := b827.lt
          have z837 := b828.lt
          have hvl2 : v2.length = 16 := by rw [hp822]; exact mixTo_len hvl
          refine wp_seq_k (fun K838 hK838 => ?_)
          refine wp_seq_k (fun K839 hK839 => ?_)
          refine wp_region_lit ?_
          refine qv 0 (.int .i64 (i2 : Nat)) F819 rfl (rn_move (F819.get rfl)) fun _ F841 => ?_; clear F819
          refine qv 1 (.bool (decide (((i2 : Nat) : Int) < (8 : Int)))) F841 rfl (rn_lss (F841.get rfl) rfl) fun _ F843 => ?_; clear F841
          refine wpList_nil ?_
          refine hK839 _ _ ?_
          clear hK839
          by_cases hc844 : ((i2 : Nat) : Int) < (8 : Int)
          · skip
            refine wp_cond_true (c_true F843 rfl (decide_eq_true hc844)) ?_
            refine wp_skip ?_
            refine hK838 _ _ ?_
            clear hK838
            refine wp_seq_k (fun K845 hK845 => ?_)
            refine wp_block ?_
            refine wp_seq_k (fun K846 hK846 => ?_)
            refine wp_region_lit ?_
            refine qv 0 (.int .i64 (i2 : Nat)) F843 rfl (rn_move (F843.get rfl)) fun _ F848 => ?_; clear F843
            refine qv 1 (.int .i64 (i2 % 4 : Nat)) F848 rfl (rn_remN (a := i2) (b := 4) (F848.get rfl) rfl (by omega)) fun _ F850 => ?_; clear F848
            refine qv 2 (.int .i64 (i2 % 4 : Nat)) F850 rfl (rn_assign (F850.get rfl)) fun _ F852 => ?_; clear F850
            refine wpList_nil ?_
            refine hK846 _ _ ?_
            clear hK846
            refine wp_seq_k (fun K853 hK853 => ?_)
            refine wp_region_lit ?_
            refine qv 0 (.int .i64 (i2 % 4 : Nat)) F852 rfl (rn_move (F852.get rfl)) fun _ F855 => ?_; clear F852
            refine qv 1 (.int .i64 (i2 % 4 : Nat)) F855 rfl (rn_move (F855.get rfl)) fun _ F857 => ?_; clear F855
            refine qv 2 (.int .i64 (4 + (i2 % 4) : Nat)) F857 rfl (rn_addN (a := 4) (b := i2 % 4) rfl (F857.get rfl) (by omega)) fun _ F859 => ?_; clear F857
            refine qv 3 (.int .i64 (i2 % 4 : Nat)) F859 rfl (rn_move (F859.get rfl)) fun _ F861 => ?_; clear F859
            refine qv 4 (.int .i64 (8 + (i2 % 4) : Nat)) F861 rfl (rn_addN (a := 8) (b := i2 % 4) rfl (F861.get rfl) (by omega)) fun _ F863 => ?_; clear F861
            refine qv 5 (.int .i64 (i2 % 4 : Nat)) F863 rfl (rn_move (F863.get rfl)) fun _ F865 => ?_; clear F863
            refine qv 6 (.int .i64 (12 + (i2 % 4) : Nat)) F865 rfl (rn_addN (a := 12) (b := i2 % 4) rfl (F865.get rfl) (by omega)) fun _ F867 => ?_; clear F865
            refine qv 7 (.agg (intVals ([((i2 % 4 : Nat) : Int), ((4 + (i2 % 4) : Nat) : Int), ((8 + (i2 % 4) : Nat) : Int), ((12 + (i2 % 4) : Nat) : Int)])).toArray) F867 rfl (rn_build (parts4 (F867.get rfl) (F867.get rfl) (F867.get rfl) (F867.get rfl)) (by kernel_rfl)) fun _ F869 => ?_; clear F867
            refine wpl_op (i := 8) rfl (o_new (fun g => (.pointer (some ⟨g, 0, none⟩))) (intVals (List.replicate 4 0)) 100 F869 rfl rfl rfl rfl (by kernel_rfl) ?_)
            intro g870 w871 a876 F877 z874 z875 b872 hx873; clear F869
            refine wpl_op (i := 9) rfl (o_store (cells := (intVals ([((i2 % 4 : Nat) : Int), ((4 + (i2 % 4) : Nat) : Int), ((8 + (i2 % 4) : Nat) : Int), ((12 + (i2 % 4) : Nat) : Int)]))) F877 rfl rfl rfl rfl (F877.get rfl) (F877.get rfl) b872 (inf100.trans (congrArg some (intVals_len (show List.length [((i2 % 4 : Nat) : Int), ((4 + (i2 % 4) : Nat) : Int), ((8 + (i2 % 4) : Nat) : Int), ((12 + (i2 % 4) : Nat) : Int)] = 4 from rfl)).symm)) ((intVals_len (show List.length (List.replicate 4 0) = _ from List.length_replicate)).trans (intVals_len (show List.length [((i2 % 4 : Nat) : Int), ((4 + (i2 % 4) : Nat) : Int), ((8 + (i2 % 4) : Nat) : Int), ((12 + (i2 % 4) : Nat) : Int)] = 4 from rfl)).symm) (intVals_one _) ?_)
            intro w878 b879 hg880; have z881 := hg880.size
            refine wpList_nil ?_
            refine hK853 _ _ ?_
            clear hK853
            have F882 := (((((((((((((((((((((F877.nil.c F877 18 rfl).c F877 17 rfl).c F877 83 rfl).c F877 16 rfl).c F877 79 rfl).c F877 15 rfl).c F877 14 rfl).c F877 72 rfl).c F877 45 rfl).c F877 13 rfl).c F877 12 rfl).c F877 11 rfl).c F877 22 rfl).c F877 10 rfl).c F877 9 rfl).c F877 8 rfl).c F877 4 rfl).c F877 3 rfl).c F877 2 rfl).c F877 1 rfl).c F877 0 rfl)
            clear F877
            refine wp_meet (fun a' W => ∃ (pa pb pc pd : Nat), Sl 182 [(0, (.agg (u32Vals h).toArray)), (1, (.slice A 64 c)), (2, (.int .u64 (n.toNat : Nat))), (3, (.bool last)), (4, (.pointer (some ⟨g2, 0, none⟩))), (8, (.pointer (some ⟨g10, 0, none⟩))), (9, (.pointer (some ⟨g21, 0, none⟩))), (10, (.int .i64 (k : Nat))), (22, (.bool (decide (((k : Nat) : Int) < (64 : Int))))), (11, (.pointer (some ⟨g125, 0, none⟩))), (12, (.pointer (some ⟨g143, 0, none⟩))), (13, (.int .i64 (k1 : Nat))), (45, (.bool (decide (((k1 : Nat) : Int) < (8 : Int))))), (72, (.bool last)), (14, (.pointer (some ⟨g761, 0, none⟩))), (15, (.int .i64 (r : Nat))), (79, (.bool (decide (((r : Nat) : Int) < (10 : Int))))), (16, (.int .i64 (i2 : Nat))), (83, (.bool (decide (((i2 : Nat) : Int) < (8 : Int))))), (17, (.int .i64 (i2 % 4 : Nat))), (18, (.pointer (some ⟨g870, 0, none⟩)))] a' ∧ Ext w W ∧ Blk W g2 80 (u32Vals h) ∧ Blk W g10 80 (u32Vals (List.replicate 8 0)) ∧ Blk W g21 89 (u32Vals m) ∧ Blk W g125 89 (u32Vals v2) ∧ Blk W g143 80 (u32Vals iv) ∧ Blk W g761 98 (intVals permI) ∧ Blk W g870 100 (intVals [((pa : Nat) : Int), ((pb : Nat) : Int), ((pc : Nat) : Int), ((pd : Nat) : Int)]) ∧ ((i2 < 4 ∧ pa = i2 % 4 ∧ pb = 4 + i2 % 4 ∧ pc = 8 + i2 % 4 ∧ pd = 12 + i2 % 4) ∨ (¬ i2 < 4 ∧ pa = i2 % 4 ∧ pb = 4 + (i2 % 4 + 1) % 4 ∧ pc = 8 + (i2 % 4 + 2) % 4 ∧ pd = 12 + (i2 % 4 + 3) % 4)) ∧ w878.heap.size ≤ W.heap.size) ?_ ?_
            · skip
              refine wp_seq_k (fun K883 hK883 => ?_)
              refine wp_region_lit ?_
              refine qv 0 (.int .i64 (i2 : Nat)) F882 rfl (rn_move (F882.get rfl)) fun _ F885 => ?_; clear F882
              refine qv 1 (.bool (decide ((4 : Int) ≤ ((i2 : Nat) : Int)))) F885 rfl (rn_geq (F885.get rfl) rfl) fun _ F887 => ?_; clear F885
              refine wpList_nil ?_
              refine hK883 _ _ ?_
              clear hK883
              by_cases hc888 : (4 : Int) ≤ ((i2 : Nat) : Int)
              · skip
                refine wp_cond_true (c_true F887 rfl (decide_eq_true hc888)) ?_
                refine wp_region_lit ?_
                refine qv 0 (.int .i64 (i2 % 4 : Nat)) F887 rfl (rn_move (F887.get rfl)) fun _ F890 => ?_; clear F887
                refine qv 1 (.int .i64 (i2 % 4 : Nat)) F890 rfl (rn_move (F890.get rfl)) fun _ F892 => ?_; clear F890
                refine qv 2 (.int .i64 ((i2 % 4) + 1 : Nat)) F892 rfl (rn_addN (a := i2 % 4) (b := 1) (F892.get rfl) rfl (by omega)) fun _ F894 => ?_; clear F892
                refine qv 3 (.int .i64 (((i2 % 4) + 1) % 4 : Nat)) F894 rfl (rn_remN (a := (i2 % 4) + 1) (b := 4) (F894.get rfl) rfl (by omega)) fun _ F896 => ?_; clear F894
                refine qv 4 (.int .i64 (4 + (((i2 % 4) + 1) % 4) : Nat)) F896 rfl (rn_addN (a := 4) (b := ((i2 % 4) + 1) % 4) rfl (F896.get rfl) (by omega)) fun _ F898 => ?_; clear F896
                refine qv 5 (.int .i64 (i2 % 4 : Nat)) F898 rfl (rn_move (F898.get rfl)) fun _ F900 => ?_; clear F898
                refine qv 6 (.int .i64 ((i2 % 4) + 2 : Nat)) F900 rfl (rn_addN (a := i2 % 4) (b := 2) (F900.get rfl) rfl (by omega)) fun _ F902 => ?_; clear F900
                refine qv 7 (.int .i64 (((i2 % 4) + 2) % 4 : Nat)) F902 rfl (rn_remN (a := (i2 % 4) + 2) (b := 4) (F902.get rfl) rfl (by omega)) fun _ F904 => ?_; clear F902
                refine qv 8 (.int .i64 (8 + (((i2 % 4) + 2) % 4) : Nat)) F904 rfl (rn_addN (a := 8) (b := ((i2 % 4) + 2) % 4) rfl (F904.get rfl) (by omega)) fun _ F906 => ?_; clear F904
                refine qv 9 (.int .i64 (i2 % 4 : Nat)) F906 rfl (rn_move (F906.get rfl)) fun _ F908 => ?_; clear F906
                refine qv 10 (.int .i64 ((i2 % 4) + 3 : Nat)) F908 rfl (rn_addN (a := i2 % 4) (b := 3) (F908.get rfl) rfl (by omega)) fun _ F910 => ?_; clear F908
                refine qv 11 (.int .i64 (((i2 % 4) + 3) % 4 : Nat)) F910 rfl (rn_remN (a := (i2 % 4) + 3) (b := 4) (F910.get rfl) rfl (by omega)) fun _ F912 => ?_; clear F910
                refine qv 12 (.int .i64 (12 + (((i2 % 4) + 3) % 4) : Nat)) F912 rfl (rn_addN (a := 12) (b := ((i2 % 4) + 3) % 4) rfl (F912.get rfl) (by omega)) fun _ F914 => ?_; clear F912
                refine qv 13 (.agg (intVals ([((i2 % 4 : Nat) : Int), ((4 + (((i2 % 4) + 1) % 4) : Nat) : Int), ((8 + (((i2 % 4) + 2) % 4) : Nat) : Int), ((12 + (((i2 % 4) + 3) % 4) : Nat) : Int)])).toArray) F914 rfl (rn_build (parts4 (F914.get rfl) (F914.get rfl) (F914.get rfl) (F914.get rfl)) (by kernel_rfl)) fun _ F916 => ?_; clear F914
                refine wpl_op (i := 14) rfl (o_store (cells := (intVals ([((i2 % 4 : Nat) : Int), ((4 + (((i2 % 4) + 1) % 4) : Nat) : Int), ((8 + (((i2 % 4) + 2) % 4) : Nat) : Int), ((12 + (((i2 % 4) + 3) % 4) : Nat) : Int)]))) F916 rfl rfl rfl rfl (F916.get rfl) (F916.get rfl) b879 (inf100.trans (congrArg some (intVals_len (show List.length [((i2 % 4 : Nat) : Int), ((4 + (((i2 % 4) + 1) % 4) : Nat) : Int), ((8 + (((i2 % 4) + 2) % 4) : Nat) : Int), ((12 + (((i2 % 4) + 3) % 4) : Nat) : Int)] = 4 from rfl)).symm)) ((intVals_len (show List.length [((i2 % 4 : Nat) : Int), ((4 + (i2 % 4) : Nat) : Int), ((8 + (i2 % 4) : Nat) : Int), ((12 + (i2 % 4) : Nat) : Int)] = 4 from rfl)).trans (intVals_len (show List.length [((i2 % 4 : Nat) : Int), ((4 + (((i2 % 4) + 1) % 4) : Nat) : Int), ((8 + (((i2 % 4) + 2) % 4) : Nat) : Int), ((12 + (((i2 % 4) + 3) % 4) : Nat) : Int)] = 4 from rfl)).symm) (intVals_one _) ?_)
                intro w917 b918 hg919; have z920 := hg919.size
                refine wpList_nil ?_
                have b921 := (((b823.ext hx873).grownN hg880 (by omega)).grownN hg919 (by omega))
                have b922 := (((b824.ext hx873).grownN hg880 (by omega)).grownN hg919 (by omega))
                have b923 := (((b825.ext hx873).grownN hg880 (by omega)).grownN hg919 (by omega))
                have b924 := (((b826.ext hx873).grownN hg880 (by omega)).grownN hg919 (by omega))
                have b925 := (((b827.ext hx873).grownN hg880 (by omega)).grownN hg919 (by omega))
                have b926 := (((b828.ext hx873).grownN hg880 (by omega)).grownN hg919 (by omega))
                exact ⟨i2 % 4, 4 + (((i2 % 4) + 1) % 4), 8 + (((i2 % 4) + 2) % 4), 12 + (((i2 % 4) + 3) % 4), (((((((((((((((((((((F916.nil.c F916 18 rfl).c F916 17 rfl).c F916 83 rfl).c F916 16 rfl).c F916 79 rfl).c F916 15 rfl).c F916 14 rfl).c F916 72 rfl).c F916 45 rfl).c F916 13 rfl).c F916 12 rfl).c F916 11 rfl).c F916 22 rfl).c F916 10 rfl).c F916 9 rfl).c F916 8 rfl).c F916 4 rfl).c F916 3 rfl).c F916 2 rfl).c F916 1 rfl).c F916 0 rfl), (((((Ext.refl w).trans hx820).trans hx873).grownN hg880 (by omega)).grownN hg919 (by omega)), b921, b922, b923, b924, b925, b926, b918, (by omega), (by omega)⟩
              · skip
                refine wp_cond_false (c_false F887 rfl (decide_eq_false hc888)) ?_
                refine wp_skip ?_
                have b927 := ((b823.ext hx873).grownN hg880 (by omega))
                have b928 := ((b824.ext hx873).grownN hg880 (by omega))
                have b929 := ((b825.ext hx873).grownN hg880 (by omega))
                have b930 := ((b826.ext hx873).grownN hg880 (by omega))
                have b931 := ((b827.ext hx873).grownN hg880 (by omega))
                have b932 := ((b828.ext hx873).grownN hg880 (by omega))
                exact ⟨i2 % 4, 4 + (i2 % 4), 8 + (i2 % 4), 12 + (i2 % 4), (((((((((((((((((((((F887.nil.c F887 18 rfl).c F887 17 rfl).c F887 83 rfl).c F887 16 rfl).c F887 79 rfl).c F887 15 rfl).c F887 14 rfl).c F887 72 rfl).c F887 45 rfl).c F887 13 rfl).c F887 12 rfl).c F887 11 rfl).c F887 22 rfl).c F887 10 rfl).c F887 9 rfl).c F887 8 rfl).c F887 4 rfl).c F887 3 rfl).c F887 2 rfl).c F887 1 rfl).c F887 0 rfl), ((((Ext.refl w).trans hx820).trans hx873).grownN hg880 (by omega)), b927, b928, b929, b930, b931, b932, b879, (by omega), (by omega)⟩
            · rintro a933 w934 ⟨pa, pb, pc, pd, F935, hx936, b939, b940, b941, b942, b943, b944, b945, pm937, z938⟩
              clear F882
              have z946 := b939.lt
              have z947 := b940.lt
              have z948 := b941.lt
              have z949 := b942.lt
              have z950 := b943.lt
              have z951 := b944.lt
              have z952 := b945.lt
              have z953 := permRow_lt (r := r) (by omega) (j := 2 * i2) (by omega); have z954 := permRow_lt (r := r) (by omega) (j := 2 * i2 + 1) (by omega)
              have hx956 : ∃ W, w934.drew = W ∧ Ext w934 W := ⟨_, rfl, (Ext.refl _).drew⟩
              obtain ⟨w955, e957, hx956⟩ := hx956
              have z958 := hx956.size
              refine anyg_start (fun W => Ext w955 W ∧ Blk W g870 100 (intVals [((pa : Nat) : Int), ((pb : Nat) : Int), ((pc : Nat) : Int), ((pd : Nat) : Int)]) ∧ Blk W g125 89 (u32Vals v2) ∧ Blk W g761 98 (intVals permI) ∧ Blk W g21 89 (u32Vals m)) (fun i => i == 48 || i == 50 || i == 52 || i == 54) (fun W => Blk W g870 100 (intVals [((pa : Nat) : Int), ((pb : Nat) : Int), ((pc : Nat) : Int), ((pd : Nat) : Int)]) ∧ Blk W g761 98 (intVals permI) ∧ Blk W g21 89 (u32Vals m)) 55 #[false, false, false, false, false, false, false, false, false, false, false, false, false, false, false, false, false, false, false, false, false, false, false, false, false, false, false, false, false, false, false, false, false, false, false, false, false, false, false, false, false, false, false, false, false, false, false, false, false, false, false, false, false, false, false] rfl rfl rfl ?_
              rw [e957]; clear e957
              refine gp 0 (.pointer (some ⟨g870, 0 + 0, none⟩)) F935 rfl rfl (fun W => (rn_indexArr Tryd.underlying100 inf3 (F935.get rfl) rfl (by omega : (0 : Int) ≤ 0) (by omega : (0 : Int) < ((4 : Nat) : Int)))) fun _ F960 => ?_; clear F935
              have b962 := (b945.ext hx956)
              have b963 := (b942.ext hx956)
              have b964 := (b944.ext hx956)
              have b965 := (b941.ext hx956)
              have hS961 : Ext w955 w955 ∧ Blk w955 g870 100 (intVals [((pa : Nat) : Int), ((pb : Nat) : Int), ((pc : Nat) : Int), ((pd : Nat) : Int)]) ∧ Blk w955 g125 89 (u32Vals v2) ∧ Blk w955 g761 98 (intVals permI) ∧ Blk w955 g21 89 (u32Vals m) := ⟨(Ext.refl w955), b962, b963, b964, b965⟩
              refine gs 1 (.int .i64 (pa : Nat)) F960 rfl rfl hS961 (fun W hW => (rn_load (isAgg_no Tryd.underlying3 rfl) (F960.get rfl) (blk_intVals hW.2.1 (by omega) (show 0 < 4 from by decide)))) fun _ F967 => ?_; clear F960
              refine gp 2 (.pointer (some ⟨g870, 0 + 1, none⟩)) F967 rfl rfl (fun W => (rn_indexArr Tryd.underlying100 inf3 (F967.get rfl) rfl (by omega : (0 : Int) ≤ 1) (by omega : (1 : Int) < ((4 : Nat) : Int)))) fun _ F969 => ?_; clear F967
              have hS970 : Blk w955 g870 100 (intVals [((pa : Nat) : Int), ((pb : Nat) : Int), ((pc : Nat) : Int), ((pd : Nat) : Int)]) ∧ Blk w955 g761 98 (intVals permI) ∧ Blk w955 g21 89 (u32Vals m) := ⟨b962, b964, b965⟩
              refine anyg_val2 (i := 3) (v := (.int .i64 (pb : Nat))) F969 (by decide +kernel) (by decide +kernel) rfl rfl rfl rfl (fun _ _ _ _ h => h) rfl hS970 (fun W hW => (rn_load (isAgg_no Tryd.underlying3 rfl) (F969.get rfl) (blk_intVals hW.1 (by omega) (show 1 < 4 from by decide)))) ?_
              intro a971 F972; clear F969
              refine gp 4 (.pointer (some ⟨g870, 0 + 2, none⟩)) F972 rfl rfl (fun W => (rn_indexArr Tryd.underlying100 inf3 (F972.get rfl) rfl (by omega : (0 : Int) ≤ 2) (by omega : (2 : Int) < ((4 : Nat) : Int)))) fun _ F974 => ?_; clear F972
              have hS975 : Blk w955 g870 100 (intVals [((pa : Nat) : Int), ((pb : Nat) : Int), ((pc : Nat) : Int), ((pd : Nat) : Int)]) ∧ Blk w955 g761 98 (intVals permI) ∧ Blk w955 g21 89 (u32Vals m) := ⟨b962, b964, b965⟩
              refine anyg_val2 (i := 5) (v := (.int .i64 (pc : Nat))) F974 (by decide +kernel) (by decide +kernel) rfl rfl rfl rfl (fun _ _ _ _ h => h) rfl hS975 (fun W hW => (rn_load (isAgg_no Tryd.underlying3 rfl) (F974.get rfl) (blk_intVals hW.1 (by omega) (show 2 < 4 from by decide)))) ?_
              intro a976 F977; clear F974
              refine gp 6 (.pointer (some ⟨g870, 0 + 3, none⟩)) F977 rfl rfl (fun W => (rn_indexArr Tryd.underlying100 inf3 (F977.get rfl) rfl (by omega : (0 : Int) ≤ 3) (by omega : (3 : Int) < ((4 : Nat) : Int)))) fun _ F979 => ?_; clear F977
              have hS980 : Blk w955 g870 100 (intVals [((pa : Nat) : Int), ((pb : Nat) : Int), ((pc : Nat) : Int), ((pd : Nat) : Int)]) ∧ Blk w955 g761 98 (intVals permI) ∧ Blk w955 g21 89 (u32Vals m) := ⟨b962, b964, b965⟩
              refine anyg_val2 (i := 7) (v := (.int .i64 (pd : Nat))) F979 (by decide +kernel) (by decide +kernel) rfl rfl rfl rfl (fun _ _ _ _ h => h) rfl hS980 (fun W hW => (rn_load (isAgg_no Tryd.underlying3 rfl) (F979.get rfl) (blk_intVals hW.1 (by omega) (show 3 < 4 from by decide)))) ?_
              intro a981 F982; clear F979
              refine gp 8 (.pointer (some ⟨g870, 0 + 0, none⟩)) F982 rfl rfl (fun W => (rn_indexArr Tryd.underlying100 inf3 (F982.get rfl) rfl (by omega : (0 : Int) ≤ 0) (by omega : (0 : Int) < ((4 : Nat) : Int)))) fun _ F984 => ?_; clear F982
              refine gs 9 (.int .i64 (pa : Nat)) F984 rfl rfl hS961 (fun W hW => (rn_load (isAgg_no Tryd.underlying3 rfl) (F984.get rfl) (blk_intVals hW.2.1 (by omega) (show 0 < 4 from by decide)))) fun _ F986 => ?_; clear F984
              refine gp 10 (.pointer (some ⟨g125, 0 + pa, none⟩)) F986 rfl rfl (fun W => (rn_indexArr Tryd.underlying89 inf79 (F986.get rfl) (F986.get rfl) (by omega : (0 : Int) ≤ (pa : Nat)) (by omega : ((pa : Nat) : Int) < ((16 : Nat) : Int)))) fun _ F988 => ?_; clear F986
              refine gs 11 (.int .u32 ((v2.getD pa 0).toNat : Nat)) F988 rfl rfl hS961 (fun W hW => (rn_load (isAgg_no Tryd.underlying79 rfl) (F988.get rfl) (blk_word hW.2.2.1 (by omega) (by have := (show List.length v2 = _ from hvl2); omega)))) fun _ F990 => ?_; clear F988
              refine gp 12 (.pointer (some ⟨g870, 0 + 1, none⟩)) F990 rfl rfl (fun W => (rn_indexArr Tryd.underlying100 inf3 (F990.get rfl) rfl (by omega : (0 : Int) ≤ 1) (by omega : (1 : Int) < ((4 : Nat) : Int)))) fun _ F992 => ?_; clear F990
              refine gs 13 (.int .i64 (pb : Nat)) F992 rfl rfl hS961 (fun W hW => (rn_load (isAgg_no Tryd.underlying3 rfl) (F992.get rfl) (blk_intVals hW.2.1 (by omega) (show 1 < 4 from by decide)))) fun _ F994 => ?_; clear F992
              refine gp 14 (.pointer (some ⟨g125, 0 + pb, none⟩)) F994 rfl rfl (fun W => (rn_indexArr Tryd.underlying89 inf79 (F994.get rfl) (F994.get rfl) (by omega : (0 : Int) ≤ (pb : Nat)) (by omega : ((pb : Nat) : Int) < ((16 : Nat) : Int)))) fun _ F996 => ?_; clear F994
              refine gs 15 (.int .u32 ((v2.getD pb 0).toNat : Nat)) F996 rfl rfl hS961 (fun W hW => (rn_load (isAgg_no Tryd.underlying79 rfl) (F996.get rfl) (blk_word hW.2.2.1 (by omega) (by have := (show List.length v2 = _ from hvl2); omega)))) fun _ F998 => ?_; clear F996
              refine gp 16 (.pointer (some ⟨g870, 0 + 2, none⟩)) F998 rfl rfl (fun W => (rn_indexArr Tryd.underlying100 inf3 (F998.get rfl) rfl (by omega : (0 : Int) ≤ 2) (by omega : (2 : Int) < ((4 : Nat) : Int)))) fun _ F1000 => ?_; clear F998
              refine gs 17 (.int .i64 (pc : Nat)) F1000 rfl rfl hS961 (fun W hW => (rn_load (isAgg_no Tryd.underlying3 rfl) (F1000.get rfl) (blk_intVals hW.2.1 (by omega) (show 2 < 4 from by decide)))) fun _ F1002 => ?_; clear F1000
              refine gp 18 (.pointer (some ⟨g125, 0 + pc, none⟩)) F1002 rfl rfl (fun W => (rn_indexArr Tryd.underlying89 inf79 (F1002.get rfl) (F1002.get rfl) (by omega : (0 : Int) ≤ (pc : Nat)) (by omega : ((pc : Nat) : Int) < ((16 : Nat) : Int)))) fun _ F1004 => ?_; clear F1002
              refine gs 19 (.int .u32 ((v2.getD pc 0).toNat : Nat)) F1004 rfl rfl hS961 (fun W hW => (rn_load (isAgg_no Tryd.underlying79 rfl) (F1004.get rfl) (blk_word hW.2.2.1 (by omega) (by have := (show List.length v2 = _ from hvl2); omega)))) fun _ F1006 => ?_; clear F1004
              refine gp 20 (.pointer (some ⟨g870, 0 + 3, none⟩)) F1006 rfl rfl (fun W => (rn_indexArr Tryd.underlying100 inf3 (F1006.get rfl) rfl (by omega : (0 : Int) ≤ 3) (by omega : (3 : Int) < ((4 : Nat) : Int)))) fun _ F1008 => ?_; clear F1006
              refine gs 21 (.int .i64 (pd : Nat)) F1008 rfl rfl hS961 (fun W hW => (rn_load (isAgg_no Tryd.underlying3 rfl) (F1008.get rfl) (blk_intVals hW.2.1 (by omega) (show 3 < 4 from by decide)))) fun _ F1010 => ?_; clear F1008
              refine gp 22 (.pointer (some ⟨g125, 0 + pd, none⟩)) F1010 rfl rfl (fun W => (rn_indexArr Tryd.underlying89 inf79 (F1010.get rfl) (F1010.get rfl) (by omega : (0 : Int) ≤ (pd : Nat)) (by omega : ((pd : Nat) : Int) < ((16 : Nat) : Int)))) fun _ F1012 => ?_; clear F1010
              refine gs 23 (.int .u32 ((v2.getD pd 0).toNat : Nat)) F1012 rfl rfl hS961 (fun W hW => (rn_load (isAgg_no Tryd.underlying79 rfl) (F1012.get rfl) (blk_word hW.2.2.1 (by omega) (by have := (show List.length v2 = _ from hvl2); omega)))) fun _ F1014 => ?_; clear F1012
              refine gp 24 (.int .i64 (r : Nat)) F1014 rfl rfl (fun W => (rn_move (F1014.get rfl))) fun _ F1016 => ?_; clear F1014
              refine gp 25 (.int .i64 (i2 : Nat)) F1016 rfl rfl (fun W => (rn_move (F1016.get rfl))) fun _ F1018 => ?_; clear F1016
              refine gp 26 (.int .i64 (2 * i2 : Nat)) F1018 rfl rfl (fun W => (rn_mulN (a := 2) (b := i2) rfl (F1018.get rfl) (by omega))) fun _ F1020 => ?_; clear F1018
              refine gp 27 (.pointer (some ⟨g761, 0 + r * 16, none⟩)) F1020 rfl rfl (fun W => (rn_indexArrE Tryd.underlying98 inf97 (F1020.get rfl) (F1020.get rfl) (by omega : (0 : Int) ≤ (r : Nat)) (by omega : ((r : Nat) : Int) < ((10 : Nat) : Int)) (by omega))) fun _ F1022 => ?_; clear F1020
              refine gp 28 (.pointer (some ⟨g761, 0 + r * 16 + (2 * i2), none⟩)) F1022 rfl rfl (fun W => (rn_indexArr Tryd.underlying97 inf3 (F1022.get rfl) (F1022.get rfl) (by omega : (0 : Int) ≤ (2 * i2 : Nat)) (by omega : ((2 * i2 : Nat) : Int) < ((16 : Nat) : Int)))) fun _ F1024 => ?_; clear F1022
              refine gs 29 (.int .i64 ((permRow r).getD (2 * i2) 0 : Nat)) F1024 rfl rfl hS961 (fun W hW => (rn_load (isAgg_no Tryd.underlying3 rfl) (F1024.get rfl) (blk_perm hW.2.2.2.1 (r := r) (j := (2 * i2)) (by omega) (by omega) (by omega)))) fun _ F1026 => ?_; clear F1024
              refine gp 30 (.pointer (some ⟨g21, 0 + ((permRow r).getD (2 * i2) 0), none⟩)) F1026 rfl rfl (fun W => (rn_indexArr Tryd.underlying89 inf79 (F1026.get rfl) (F1026.get rfl) (by omega : (0 : Int) ≤ ((permRow r).getD (2 * i2) 0 : Nat)) (by omega : (((permRow r).getD (2 * i2) 0 : Nat) : Int) < ((16 : Nat) : Int)))) fun _ F1028 => ?_; clear F1026
              refine gs 31 (.int .u32 ((m.getD ((permRow r).getD (2 * i2) 0) 0).toNat : Nat)) F1028 rfl rfl hS961 (fun W hW => (rn_load (isAgg_no Tryd.underlying79 rfl) (F1028.get rfl) (blk_word hW.2.2.2.2 (by omega) (by have := (show List.length m = _ from hm); omega)))) fun _ F1030 => ?_; clear F1028
              refine gp 32 (.int .i64 (r : Nat)) F1030 rfl rfl (fun W => (rn_move (F1030.get rfl))) fun _ F1032 => ?_; clear F1030
              refine gp 33 (.int .i64 (i2 : Nat)) F1032 rfl rfl (fun W => (rn_move (F1032.get rfl))) fun _ F1034 => ?_; clear F1032
              refine gp 34 (.int .i64 (2 * i2 : Nat)) F1034 rfl rfl (fun W => (rn_mulN (a := 2) (b := i2) rfl (F1034.get rfl) (by omega))) fun _ F1036 => ?_; clear F1034
              refine gp 35 (.int .i64 ((2 * i2) + 1 : Nat)) F1036 rfl rfl (fun W => (rn_addN (a := 2 * i2) (b := 1) (F1036.get rfl) rfl (by omega))) fun _ F1038 => ?_; clear F1036
              refine gp 36 (.pointer (some ⟨g761, 0 + r * 16, none⟩)) F1038 rfl rfl (fun W => (rn_indexArrE Tryd.underlying98 inf97 (F1038.get rfl) (F1038.get rfl) (by omega : (0 : Int) ≤ (r : Nat)) (by omega : ((r : Nat) : Int) < ((10 : Nat) : Int)) (by omega))) fun _ F1040 => ?_; clear F1038
              refine gp 37 (.pointer (some ⟨g761, 0 + r * 16 + ((2 * i2) + 1), none⟩)) F1040 rfl rfl (fun W => (rn_indexArr Tryd.underlying97 inf3 (F1040.get rfl) (F1040.get rfl) (by omega : (0 : Int) ≤ ((2 * i2) + 1 : Nat)) (by omega : (((2 * i2) + 1 : Nat) : Int) < ((16 : Nat) : Int)))) fun _ F1042 => ?_; clear F1040
              refine gs 38 (.int .i64 ((permRow r).getD ((2 * i2) + 1) 0 : Nat)) F1042 rfl rfl hS961 (fun W hW => (rn_load (isAgg_no Tryd.underlying3 rfl) (F1042.get rfl) (blk_perm hW.2.2.2.1 (r := r) (j := ((2 * i2) + 1)) (by omega) (by omega) (by omega)))) fun _ F1044 => ?_; clear F1042
              refine gp 39 (.pointer (some ⟨g21, 0 + ((permRow r).getD ((2 * i2) + 1) 0), none⟩)) F1044 rfl rfl (fun W => (rn_indexArr Tryd.underlying89 inf79 (F1044.get rfl) (F1044.get rfl) (by omega : (0 : Int) ≤ ((permRow r).getD ((2 * i2) + 1) 0 : Nat)) (by omega : (((permRow r).getD ((2 * i2) + 1) 0 : Nat) : Int) < ((16 : Nat) : Int)))) fun _ F1046 => ?_; clear F1044
              refine gs 40 (.int .u32 ((m.getD ((permRow r).getD ((2 * i2) + 1) 0) 0).toNat : Nat)) F1046 rfl rfl hS961 (fun W hW => (rn_load (isAgg_no Tryd.underlying79 rfl) (F1046.get rfl) (blk_word hW.2.2.2.2 (by omega) (by have := (show List.length m = _ from hm); omega)))) fun _ F1048 => ?_; clear F1046
              refine anyg_one (i := 41) (by decide +kernel) rfl ?_
              refine o_call F1048 rfl rfl rfl rfl (rn_call (args6 (F1048.get rfl) (F1048.get rfl) (F1048.get rfl) (F1048.get rfl) (F1048.get rfl) (F1048.get rfl)) rfl (by kernel_rfl)) (rmix_any (v2.getD pa 0) (v2.getD pb 0) (v2.getD pc 0) (v2.getD pd 0) (m.getD ((permRow r).getD (2 * i2) 0) 0) (m.getD ((permRow r).getD ((2 * i2) + 1) 0) 0) _) ?_
              rintro _ w1049 ⟨rfl, hx1050⟩
              refine ⟨_, rfl, ?_⟩; intro a1051 F1052; clear F1048; have z1053 := hx1050.size
              have b1054 := (b962.ext hx1050)
              have b1055 := (b963.ext hx1050)
              have b1056 := (b964.ext hx1050)
              have b1057 := (b965.ext hx1050)
              refine ⟨⟨fun _ _ => ⟨((Ext.refl w955).trans hx1050), b1054, b1055, b1056, b1057⟩, fun _ => ⟨b1054, b1056, b1057⟩⟩, ?_⟩
              refine gp 42 (.tuple #[(.int .u32 (((mix4 (v2.getD pa 0) (v2.getD pb 0) (v2.getD pc 0) (v2.getD pd 0) (m.getD ((permRow r).getD (2 * i2) 0) 0) (m.getD ((permRow r).getD ((2 * i2) + 1) 0) 0)).a).toNat : Nat)), (.int .u32 (((mix4 (v2.getD pa 0) (v2.getD pb 0) (v2.getD pc 0) (v2.getD pd 0) (m.getD ((permRow r).getD (2 * i2) 0) 0) (m.getD ((permRow r).getD ((2 * i2) + 1) 0) 0)).b).toNat : Nat)), (.int .u32 (((mix4 (v2.getD pa 0) (v2.getD pb 0) (v2.getD pc 0) (v2.getD pd 0) (m.getD ((permRow r).getD (2 * i2) 0) 0) (m.getD ((permRow r).getD ((2 * i2) + 1) 0) 0)).c).toNat : Nat)), (.int .u32 (((mix4 (v2.getD pa 0) (v2.getD pb 0) (v2.getD pc 0) (v2.getD pd 0) (m.getD ((permRow r).getD (2 * i2) 0) 0) (m.getD ((permRow r).getD ((2 * i2) + 1) 0) 0)).d).toNat : Nat))]) F1052 rfl rfl (fun W => (rn_move (F1052.get rfl))) fun _ F1059 => ?_; clear F1052
              refine gp 43 (.int .u32 (((mix4 (v2.getD pa 0) (v2.getD pb 0) (v2.getD pc 0) (v2.getD pd 0) (m.getD ((permRow r).getD (2 * i2) 0) 0) (m.getD ((permRow r).getD ((2 * i2) + 1) 0) 0)).a).toNat : Nat)) F1059 rfl rfl (fun W => (rn_extract (F1059.get rfl) rfl)) fun _ F1061 => ?_; clear F1059
              refine gp 44 (.int .u32 (((mix4 (v2.getD pa 0) (v2.getD pb 0) (v2.getD pc 0) (v2.getD pd 0) (m.getD ((permRow r).getD (2 * i2) 0) 0) (m.getD ((permRow r).getD ((2 * i2) + 1) 0) 0)).b).toNat : Nat)) F1061 rfl rfl (fun W => (rn_extract (F1061.get rfl) rfl)) fun _ F1063 => ?_; clear F1061
              refine gp 45 (.int .u32 (((mix4 (v2.getD pa 0) (v2.getD pb 0) (v2.getD pc 0) (v2.getD pd 0) (m.getD ((permRow r).getD (2 * i2) 0) 0) (m.getD ((permRow r).getD ((2 * i2) + 1) 0) 0)).c).toNat : Nat)) F1063 rfl rfl (fun W => (rn_extract (F1063.get rfl) rfl)) fun _ F1065 => ?_; clear F1063
              refine gp 46 (.int .u32 (((mix4 (v2.getD pa 0) (v2.getD pb 0) (v2.getD pc 0) (v2.getD pd 0) (m.getD ((permRow r).getD (2 * i2) 0) 0) (m.getD ((permRow r).getD ((2 * i2) + 1) 0) 0)).d).toNat : Nat)) F1065 rfl rfl (fun W => (rn_extract (F1065.get rfl) rfl)) fun _ F1067 => ?_; clear F1065
              refine gp 47 (.pointer (some ⟨g125, 0 + pa, none⟩)) F1067 rfl rfl (fun W => (rn_indexArr Tryd.underlying89 inf79 (F1067.get rfl) (F1067.get rfl) (by omega : (0 : Int) ≤ (pa : Nat)) (by omega : ((pa : Nat) : Int) < ((16 : Nat) : Int)))) fun _ F1069 => ?_; clear F1067
              refine anyg_one (i := 48) (by decide +kernel) rfl ?_
              refine o_store1 (new := (u32Vals (v2.set pa ((mix4 (v2.getD pa 0) (v2.getD pb 0) (v2.getD pc 0) (v2.getD pd 0) (m.getD ((permRow r).getD (2 * i2) 0) 0) (m.getD ((permRow r).getD ((2 * i2) + 1) 0) 0)).a)))) F1069 rfl rfl rfl rfl (F1069.get rfl) (F1069.get rfl) b1055 inf79 (by rw [u32Vals_len hvl2]; omega) rfl (u32Vals_set (by omega)) ?_
              intro w1070 b1071 hg1072; have z1073 := hg1072.size
              have b1074 := (b1054.grownN hg1072 (by omega))
              have b1075 := (b1056.grownN hg1072 (by omega))
              have b1076 := (b1057.grownN hg1072 (by omega))
              refine ⟨⟨fun h => absurd h (by decide), fun _ => ⟨b1074, b1075, b1076⟩⟩, ?_⟩
              refine gp 49 (.pointer (some ⟨g125, 0 + pb, none⟩)) F1069 rfl rfl (fun W => (rn_indexArr Tryd.underlying89 inf79 (F1069.get rfl) (F1069.get rfl) (by omega : (0 : Int) ≤ (pb : Nat)) (by omega : ((pb : Nat) : Int) < ((16 : Nat) : Int)))) fun _ F1078 => ?_; clear F1069
              refine anyg_one (i := 50) (by decide +kernel) rfl ?_
              refine o_store1 (new := (u32Vals ((v2.set pa ((mix4 (v2.getD pa 0) (v2.getD pb 0) (v2.getD pc 0) (v2.getD pd 0) (m.getD ((permRow r).getD (2 * i2) 0) 0) (m.getD ((permRow r).getD ((2 * i2) + 1) 0) 0)).a)).set pb ((mix4 (v2.getD pa 0) (v2.getD pb 0) (v2.getD pc 0) (v2.getD pd 0) (m.getD ((permRow r).getD (2 * i2) 0) 0) (m.getD ((permRow r).getD ((2 * i2) + 1) 0) 0)).b)))) F1078 rfl rfl rfl rfl (F1078.get rfl) (F1078.get rfl) b1071 inf79 (by rw [u32Vals_len (show List.length (v2.set pa ((mix4 (v2.getD pa 0) (v2.getD pb 0) (v2.getD pc 0) (v2.getD pd 0) (m.getD ((permRow r).getD (2 * i2) 0) 0) (m.getD ((permRow r).getD ((2 * i2) + 1) 0) 0)).a)) = _ from List.length_set.trans hvl2)]; omega) rfl (u32Vals_set (by omega)) ?_
              intro w1079 b1080 hg1081; have z1082 := hg1081.size
              have b1083 := (b1074.grownN hg1081 (by omega))
              have b1084 := (b1075.grownN hg1081 (by omega))
              have b1085 := (b1076.grownN hg1081 (by omega))
              refine ⟨⟨fun h => absurd h (by decide), fun _ => ⟨b1083, b1084, b1085⟩⟩, ?_⟩
              refine gp 51 (.pointer (some ⟨g125, 0 + pc, none⟩)) F1078 rfl rfl (fun W => (rn_indexArr Tryd.underlying89 inf79 (F1078.get rfl) (F1078.get rfl) (by omega : (0 : Int) ≤ (pc : Nat)) (by omega : ((pc : Nat) : Int) < ((16 : Nat) : Int)))) fun _ F1087 => ?_; clear F1078
              refine anyg_one (i := 52) (by decide +kernel) rfl ?_
              refine o_store1 (new := (u32Vals (((v2.set pa ((mix4 (v2.getD pa 0) (v2.getD pb 0) (v2.getD pc 0) (v2.getD pd 0) (m.getD ((permRow r).getD (2 * i2) 0) 0) (m.getD ((permRow r).getD ((2 * i2) + 1) 0) 0)).a)).set pb ((mix4 (v2.getD pa 0) (v2.getD pb 0) (v2.getD pc 0) (v2.getD pd 0) (m.getD ((permRow r).getD (2 * i2) 0) 0) (m.getD ((permRow r).getD ((2 * i2) + 1) 0) 0)).b)).set pc ((mix4 (v2.getD pa 0) (v2.getD pb 0) (v2.getD pc 0) (v2.getD pd 0) (m.getD ((permRow r).getD (2 * i2) 0) 0) (m.getD ((permRow r).getD ((2 * i2) + 1) 0) 0)).c)))) F1087 rfl rfl rfl rfl (F1087.get rfl) (F1087.get rfl) b1080 inf79 (by rw [u32Vals_len (show List.length ((v2.set pa ((mix4 (v2.getD pa 0) (v2.getD pb 0) (v2.getD pc 0) (v2.getD pd 0) (m.getD ((permRow r).getD (2 * i2) 0) 0) (m.getD ((permRow r).getD ((2 * i2) + 1) 0) 0)).a)).set pb ((mix4 (v2.getD pa 0) (v2.getD pb 0) (v2.getD pc 0) (v2.getD pd 0) (m.getD ((permRow r).getD (2 * i2) 0) 0) (m.getD ((permRow r).getD ((2 * i2) + 1) 0) 0)).b)) = _ from List.length_set.trans (show List.length (v2.set pa ((mix4 (v2.getD pa 0) (v2.getD pb 0) (v2.getD pc 0) (v2.getD pd 0) (m.getD ((permRow r).getD (2 * i2) 0) 0) (m.getD ((permRow r).getD ((2 * i2) + 1) 0) 0)).a)) = _ from List.length_set.trans hvl2))]; omega) rfl (u32Vals_set (by omega)) ?_
              intro w1088 b1089 hg1090; have z1091 := hg1090.size
              have b1092 := (b1083.grownN hg1090 (by omega))
              have b1093 := (b1084.grownN hg1090 (by omega))
              have b1094 := (b1085.grownN hg1090 (by omega))
              refine ⟨⟨fun h => absurd h (by decide), fun _ => ⟨b1092, b1093, b1094⟩⟩, ?_⟩
              refine gp 53 (.pointer (some ⟨g125, 0 + pd, none⟩)) F1087 rfl rfl (fun W => (rn_indexArr Tryd.underlying89 inf79 (F1087.get rfl) (F1087.get rfl) (by omega : (0 : Int) ≤ (pd : Nat)) (by omega : ((pd : Nat) : Int) < ((16 : Nat) : Int)))) fun _ F1096 => ?_; clear F1087
              refine anyg_one (i := 54) (by decide +kernel) rfl ?_
              refine o_store1 (new := (u32Vals ((((v2.set pa ((mix4 (v2.getD pa 0) (v2.getD pb 0) (v2.getD pc 0) (v2.getD pd 0) (m.getD ((permRow r).getD (2 * i2) 0) 0) (m.getD ((permRow r).getD ((2 * i2) + 1) 0) 0)).a)).set pb ((mix4 (v2.getD pa 0) (v2.getD pb 0) (v2.getD pc 0) (v2.getD pd 0) (m.getD ((permRow r).getD (2 * i2) 0) 0) (m.getD ((permRow r).getD ((2 * i2) + 1) 0) 0)).b)).set pc ((mix4 (v2.getD pa 0) (v2.getD pb 0) (v2.getD pc 0) (v2.getD pd 0) (m.getD ((permRow r).getD (2 * i2) 0) 0) (m.getD ((permRow r).getD ((2 * i2) + 1) 0) 0)).c)).set pd ((mix4 (v2.getD pa 0) (v2.getD pb 0) (v2.getD pc 0) (v2.getD pd 0) (m.getD ((permRow r).getD (2 * i2) 0) 0) (m.getD ((permRow r).getD ((2 * i2) + 1) 0) 0)).d)))) F1096 rfl rfl rfl rfl (F1096.get rfl) (F1096.get rfl) b1089 inf79 (by rw [u32Vals_len (show List.length (((v2.set pa ((mix4 (v2.getD pa 0) (v2.getD pb 0) (v2.getD pc 0) (v2.getD pd 0) (m.getD ((permRow r).getD (2 * i2) 0) 0) (m.getD ((permRow r).getD ((2 * i2) + 1) 0) 0)).a)).set pb ((mix4 (v2.getD pa 0) (v2.getD pb 0) (v2.getD pc 0) (v2.getD pd 0) (m.getD ((permRow r).getD (2 * i2) 0) 0) (m.getD ((permRow r).getD ((2 * i2) + 1) 0) 0)).b)).set pc ((mix4 (v2.getD pa 0) (v2.getD pb 0) (v2.getD pc 0) (v2.getD pd 0) (m.getD ((permRow r).getD (2 * i2) 0) 0) (m.getD ((permRow r).getD ((2 * i2) + 1) 0) 0)).c)) = _ from List.length_set.trans (show List.length ((v2.set pa ((mix4 (v2.getD pa 0) (v2.getD pb 0) (v2.getD pc 0) (v2.getD pd 0) (m.getD ((permRow r).getD (2 * i2) 0) 0) (m.getD ((permRow r).getD ((2 * i2) + 1) 0) 0)).a)).set pb ((mix4 (v2.getD pa 0) (v2.getD pb 0) (v2.getD pc 0) (v2.getD pd 0) (m.getD ((permRow r).getD (2 * i2) 0) 0) (m.getD ((permRow r).getD ((2 * i2) + 1) 0) 0)).b)) = _ from List.length_set.trans (show List.length (v2.set pa ((mix4 (v2.getD pa 0) (v2.getD pb 0) (v2.getD pc 0) (v2.getD pd 0) (m.getD ((permRow r).getD (2 * i2) 0) 0) (m.getD ((permRow r).getD ((2 * i2) + 1) 0) 0)).a)) = _ from List.length_set.trans hvl2)))]; omega) rfl (u32Vals_set (by omega)) ?_
              intro w1097 b1098 hg1099; have z1100 := hg1099.size
              have b1101 := (b1092.grownN hg1099 (by omega))
              have b1102 := (b1093.grownN hg1099 (by omega))
              have b1103 := (b1094.grownN hg1099 (by omega))
              refine ⟨⟨fun h => absurd h (by decide), fun _ => ⟨b1101, b1102, b1103⟩⟩, ?_⟩
              refine anyg_nil (by decide +kernel) ?_
              refine hK845 _ _ ?_
              clear hK845
              have F1104 := (((((((((((((((((((((F1096.nil.c F1096 18 rfl).c F1096 17 rfl).c F1096 83 rfl).c F1096 16 rfl).c F1096 79 rfl).c F1096 15 rfl).c F1096 14 rfl).c F1096 72 rfl).c F1096 45 rfl).c F1096 13 rfl).c F1096 12 rfl).c F1096 11 rfl).c F1096 22 rfl).c F1096 10 rfl).c F1096 9 rfl).c F1096 8 rfl).c F1096 4 rfl).c F1096 3 rfl).c F1096 2 rfl).c F1096 1 rfl).c F1096 0 rfl)
              clear F1096
              refine wp_region_lit ?_
              refine qv 0 (.int .i64 (i2 : Nat)) F1104 rfl (rn_move (F1104.get rfl)) fun _ F1106 => ?_; clear F1104
              refine qv 1 (.int .i64 (i2 + 1 : Nat)) F1106 rfl (rn_addN (a := i2) (b := 1) (F1106.get rfl) rfl (by omega)) fun _ F1108 => ?_; clear F1106
              refine qv 2 (.int .i64 (i2 + 1 : Nat)) F1108 rfl (rn_assign (F1108.get rfl)) fun _ F1110 => ?_; clear F1108
              refine wpList_nil ?_
              obtain ⟨v1111, e1112⟩ : ∃ z, z = (((v2.set pa ((mix4 (v2.getD pa 0) (v2.getD pb 0) (v2.getD pc 0) (v2.getD pd 0) (m.getD ((permRow r).getD (2 * i2) 0) 0) (m.getD ((permRow r).getD ((2 * i2) + 1) 0) 0)).a)).set pb ((mix4 (v2.getD pa 0) (v2.getD pb 0) (v2.getD pc 0) (v2.getD pd 0) (m.getD ((permRow r).getD (2 * i2) 0) 0) (m.getD ((permRow r).getD ((2 * i2) + 1) 0) 0)).b)).set pc ((mix4 (v2.getD pa 0) (v2.getD pb 0) (v2.getD pc 0) (v2.getD pd 0) (m.getD ((permRow r).getD (2 * i2) 0) 0) (m.getD ((permRow r).getD ((2 * i2) + 1) 0) 0)).c)).set pd ((mix4 (v2.getD pa 0) (v2.getD pb 0) (v2.getD pc 0) (v2.getD pd 0) (m.getD ((permRow r).getD (2 * i2) 0) 0) (m.getD ((permRow r).getD ((2 * i2) + 1) 0) 0)).d) := ⟨_, rfl⟩
              have hl1113 : v1111.length = 16 := (congrArg List.length e1112).trans (show List.length ((((v2.set pa ((mix4 (v2.getD pa 0) (v2.getD pb 0) (v2.getD pc 0) (v2.getD pd 0) (m.getD ((permRow r).getD (2 * i2) 0) 0) (m.getD ((permRow r).getD ((2 * i2) + 1) 0) 0)).a)).set pb ((mix4 (v2.getD pa 0) (v2.getD pb 0) (v2.getD pc 0) (v2.getD pd 0) (m.getD ((permRow r).getD (2 * i2) 0) 0) (m.getD ((permRow r).getD ((2 * i2) + 1) 0) 0)).b)).set pc ((mix4 (v2.getD pa 0) (v2.getD pb 0) (v2.getD pc 0) (v2.getD pd 0) (m.getD ((permRow r).getD (2 * i2) 0) 0) (m.getD ((permRow r).getD ((2 * i2) + 1) 0) 0)).c)).set pd ((mix4 (v2.getD pa 0) (v2.getD pb 0) (v2.getD pc 0) (v2.getD pd 0) (m.getD ((permRow r).getD (2 * i2) 0) 0) (m.getD ((permRow r).getD ((2 * i2) + 1) 0) 0)).d)) = _ from List.length_set.trans (show List.length (((v2.set pa ((mix4 (v2.getD pa 0) (v2.getD pb 0) (v2.getD pc 0) (v2.getD pd 0) (m.getD ((permRow r).getD (2 * i2) 0) 0) (m.getD ((permRow r).getD ((2 * i2) + 1) 0) 0)).a)).set pb ((mix4 (v2.getD pa 0) (v2.getD pb 0) (v2.getD pc 0) (v2.getD pd 0) (m.getD ((permRow r).getD (2 * i2) 0) 0) (m.getD ((permRow r).getD ((2 * i2) + 1) 0) 0)).b)).set pc ((mix4 (v2.getD pa 0) (v2.getD pb 0) (v2.getD pc 0) (v2.getD pd 0) (m.getD ((permRow r).getD (2 * i2) 0) 0) (m.getD ((permRow r).getD ((2 * i2) + 1) 0) 0)).c)) = _ from List.length_set.trans (show List.length ((v2.set pa ((mix4 (v2.getD pa 0) (v2.getD pb 0) (v2.getD pc 0) (v2.getD pd 0) (m.getD ((permRow r).getD (2 * i2) 0) 0) (m.getD ((permRow r).getD ((2 * i2) + 1) 0) 0)).a)).set pb ((mix4 (v2.getD pa 0) (v2.getD pb 0) (v2.getD pc 0) (v2.getD pd 0) (m.getD ((permRow r).getD (2 * i2) 0) 0) (m.getD ((permRow r).getD ((2 * i2) + 1) 0) 0)).b)) = _ from List.length_set.trans (show List.length (v2.set pa ((mix4 (v2.getD pa 0) (v2.getD pb 0) (v2.getD pc 0) (v2.getD pd 0) (m.getD ((permRow r).getD (2 * i2) 0) 0) (m.getD ((permRow r).getD ((2 * i2) + 1) 0) 0)).a)) = _ from List.length_set.trans hvl2))))
              rw [← e1112] at b1098
              have b1114 := ((((((b939.ext hx956).ext hx1050).grownN hg1072 (by omega)).grownN hg1081 (by omega)).grownN hg1090 (by omega)).grownN hg1099 (by omega))
              have b1115 := ((((((b940.ext hx956).ext hx1050).grownN hg1072 (by omega)).grownN hg1081 (by omega)).grownN hg1090 (by omega)).grownN hg1099 (by omega))
              have b1116 := ((((((b943.ext hx956).ext hx1050).grownN hg1072 (by omega)).grownN hg1081 (by omega)).grownN hg1090 (by omega)).grownN hg1099 (by omega))
              refine ⟨⟨(i2 + 1), v1111, ((((((((((((((((((F1110.nil.cons (q_get F1110 (t := 16) rfl (by first | rfl | (congr 1; omega) | (congr 1; done)))).cons (q_get F1110 (t := 79) rfl rfl)).cons (q_get F1110 (t := 15) rfl rfl)).cons (q_get F1110 (t := 14) rfl rfl)).cons (q_get F1110 (t := 72) rfl rfl)).cons (q_get F1110 (t := 45) rfl rfl)).cons (q_get F1110 (t := 13) rfl rfl)).cons (q_get F1110 (t := 12) rfl rfl)).cons (q_get F1110 (t := 11) rfl rfl)).cons (q_get F1110 (t := 22) rfl rfl)).cons (q_get F1110 (t := 10) rfl rfl)).cons (q_get F1110 (t := 9) rfl rfl)).cons (q_get F1110 (t := 8) rfl rfl)).cons (q_get F1110 (t := 4) rfl rfl)).cons (q_get F1110 (t := 3) rfl rfl)).cons (q_get F1110 (t := 2) rfl rfl)).cons (q_get F1110 (t := 1) rfl rfl)).cons (q_get F1110 (t := 0) rfl rfl)), (by omega), (mixTo_r hp822 pm937 rfl e1112), ((((((((Ext.refl w).trans hx936).trans hx956).trans hx1050).grownN hg1072 (by omega)).grownN hg1081 (by omega)).grownN hg1090 (by omega)).grownN hg1099 (by omega)), b1114, b1115, b1103, b1098, b1116, b1102, (by omega)⟩, ?_⟩
              rw [F1110.get (t := 16) rfl, hL830.get (t := 16) rfl]; simp [intOf] <;> omega
          · skip
            refine wp_cond_false (c_false F843 rfl (decide_eq_false hc844)) ?_
            refine wp_exit ?_
            refine exit_then ?_
            refine exit_then ?_
            refine exit_here ?_
            refine hK813 _ _ ?_
            clear hK813
            refine wp_region_lit ?_
            refine qv 0 (.int .i64 (r : Nat)) F843 rfl (rn_move (F843.get rfl)) fun _ F1118 => ?_; clear F843
            refine qv 1 (.int .i64 (r + 1 : Nat)) F1118 rfl (rn_addN (a := r) (b := 1) (F1118.get rfl) rfl (by omega)) fun _ F1120 => ?_; clear F1118
            refine qv 2 (.int .i64 (r + 1 : Nat)) F1120 rfl (rn_assign (F1120.get rfl)) fun _ F1122 => ?_; clear F1120
            refine wpList_nil ?_
            refine ⟨⟨(r + 1), v2, ((((((((((((((((F1122.nil.cons (q_get F1122 (t := 15) rfl (by first | rfl | (congr 1; omega) | (congr 1; done)))).cons (q_get F1122 (t := 14) rfl rfl)).cons (q_get F1122 (t := 72) rfl rfl)).cons (q_get F1122 (t := 45) rfl rfl)).cons (q_get F1122 (t := 13) rfl rfl)).cons (q_get F1122 (t := 12) rfl rfl)).cons (q_get F1122 (t := 11) rfl rfl)).cons (q_get F1122 (t := 22) rfl rfl)).cons (q_get F1122 (t := 10) rfl rfl)).cons (q_get F1122 (t := 9) rfl rfl)).cons (q_get F1122 (t := 8) rfl rfl)).cons (q_get F1122 (t := 4) rfl rfl)).cons (q_get F1122 (t := 3) rfl rfl)).cons (q_get F1122 (t := 2) rfl rfl)).cons (q_get F1122 (t := 1) rfl rfl)).cons (q_get F1122 (t := 0) rfl rfl)), (by omega), (roundTo_step (by omega) hp790 (by rw [hp822, show i2 = 8 by omega])), ((Ext.refl w).trans hx820), b823, b824, b825, b826, b827, b828, (by omega)⟩, ?_⟩
            rw [F1122.get (t := 15) rfl, hL798.get (t := 15) rfl]; simp [intOf] <;> omega
        · skip
          refine wp_cond_false (c_false F811 rfl (decide_eq_false hc812)) ?_
          refine wp_exit ?_
          refine exit_then ?_
          refine exit_then ?_
          refine exit_here ?_
          refine hK773 _ _ ?_
          clear hK773
          refine wp_seq_k (fun K1123 hK1123 => ?_)
          refine wp_seq_k (fun K1124 hK1124 => ?_)
          refine wp_region_lit ?_
          refine qv 0 (.int .i64 0) F811 rfl (rn_assign rfl) fun _ F1126 => ?_; clear F811
          refine wpList_nil ?_
          refine hK1124 _ _ ?_
          clear hK1124
          refine wp_block ?_
          have hv10 : v = roundTo (words b) (begin_ h n last) 10 := by rw [hp790, hv1, hmw, show r = 10 from by omega]
          refine wp_loop (fun a' W => ∃ (k5 : Nat) (hh2 : List UInt32), Sl 182 [(0, (.agg (u32Vals h).toArray)), (1, (.slice A 64 c)), (2, (.int .u64 (n.toNat : Nat))), (3, (.bool last)), (4, (.pointer (some ⟨g2, 0, none⟩))), (8, (.pointer (some ⟨g10, 0, none⟩))), (9, (.pointer (some ⟨g21, 0, none⟩))), (10, (.int .i64 (k : Nat))), (22, (.bool (decide (((k : Nat) : Int) < (64 : Int))))), (11, (.pointer (some ⟨g125, 0, none⟩))), (12, (.pointer (some ⟨g143, 0, none⟩))), (13, (.int .i64 (k1 : Nat))), (45, (.bool (decide (((k1 : Nat) : Int) < (8 : Int))))), (72, (.bool last)), (14, (.pointer (some ⟨g761, 0, none⟩))), (15, (.int .i64 (r : Nat))), (79, (.bool (decide (((r : Nat) : Int) < (10 : Int))))), (19, (.int .i64 (k5 : Nat)))] a' ∧ k5 ≤ 8 ∧ hh2 = closeTo v h k5 ∧ Ext w W ∧ Blk W g2 80 (u32Vals hh2) ∧ Blk W g10 80 (u32Vals (List.replicate 8 0)) ∧ Blk W g21 89 (u32Vals m) ∧ Blk W g125 89 (u32Vals v) ∧ Blk W g143 80 (u32Vals iv) ∧ Blk W g761 98 (intVals permI) ∧ w786.heap.size ≤ W.heap.size) (fun a' _ => 8 - (intOf (a'.eval (.tmp 19))).toNat) ⟨0, h, ((((((((((((((((((F1126.nil.cons (q_get F1126 (t := 19) rfl (by first | rfl | (congr 1; omega) | (congr 1; done)))).cons (q_get F1126 (t := 79) rfl rfl)).cons (q_get F1126 (t := 15) rfl rfl)).cons (q_get F1126 (t := 14) rfl rfl)).cons (q_get F1126 (t := 72) rfl rfl)).cons (q_get F1126 (t := 45) rfl rfl)).cons (q_get F1126 (t := 13) rfl rfl)).cons (q_get F1126 (t := 12) rfl rfl)).cons (q_get F1126 (t := 11) rfl rfl)).cons (q_get F1126 (t := 22) rfl rfl)).cons (q_get F1126 (t := 10) rfl rfl)).cons (q_get F1126 (t := 9) rfl rfl)).cons (q_get F1126 (t := 8) rfl rfl)).cons (q_get F1126 (t := 4) rfl rfl)).cons (q_get F1126 (t := 3) rfl rfl)).cons (q_get F1126 (t := 2) rfl rfl)).cons (q_get F1126 (t := 1) rfl rfl)).cons (q_get F1126 (t := 0) rfl rfl)), (by omega), rfl, ((Ext.refl w).trans hx788), b791, b792, b793, b794, b795, b796, (Nat.le_refl _)⟩ ?_
          clear F1126
          rintro a1127 w1128 ⟨k5, hh2, F1129, hp1131, hp1132, hx1130, b1133, b1134, b1135, b1136, b1137, b1138, hf1139⟩
          have hL1140 := F1129
          have z1141 := hx1130.size
          have z1142 := b1133.lt
          have z1143 := b1134.lt
          have z1144 := b1135.lt
          have z1145 := b1136.lt
          have z1146 := b1137.lt
          have z1147 := b1138.lt
          have hhl : hh2.length = 8 := by rw [hp1132]; exact closeTo_len hh
          refine wp_seq_k (fun K1148 hK1148 => ?_)
          refine wp_seq_k (fun K1149 hK1149 => ?_)
          refine wp_region_lit ?_
          refine qv 0 (.int .i64 (k5 : Nat)) F1129 rfl (rn_move (F1129.get rfl)) fun _ F1151 => ?_; clear F1129
          refine qv 1 (.bool (decide (((k5 : Nat) : Int) < (8 : Int)))) F1151 rfl (rn_lss (F1151.get rfl) rfl) fun _ F1153 => ?_; clear F1151
          refine wpList_nil ?_
          refine hK1149 _ _ ?_
          clear hK1149
          by_cases hc1154 : ((k5 : Nat) : Int) < (8 : Int)
          · skip
            refine wp_cond_true (c_true F1153 rfl (decide_eq_true hc1154)) ?_
            refine wp_skip ?_
            refine hK1148 _ _ ?_
            clear hK1148
            refine wp_seq_k (fun K1155 hK1155 => ?_)
            refine wp_block ?_
            have hx1157 : ∃ W, w1128.drew = W ∧ Ext w1128 W := ⟨_, rfl, (Ext.refl _).drew⟩
            obtain ⟨w1156, e1158, hx1157⟩ := hx1157
            have z1159 := hx1157.size
            refine any_start (fun W => Ext w1156 W ∧ Blk W g2 80 (u32Vals hh2) ∧ Blk W g125 89 (u32Vals v)) (fun i => i == 14) 15 #[false, false, false, false, false, false, false, false, false, false, false, false, false, false, false] rfl rfl rfl ?_
            rw [e1158]; clear e1158
            refine qp 0 (.int .i64 (k5 : Nat)) F1153 rfl rfl (fun W => (rn_move (F1153.get rfl))) fun _ F1161 => ?_; clear F1153
            refine qp 1 (.int .i64 (k5 : Nat)) F1161 rfl rfl (fun W => (rn_move (F1161.get rfl))) fun _ F1163 => ?_; clear F1161
            refine qp 2 (.pointer (some ⟨g2, 0 + k5, none⟩)) F1163 rfl rfl (fun W => (rn_indexArr Tryd.underlying80 inf79 (F1163.get rfl) (F1163.get rfl) (by omega : (0 : Int) ≤ (k5 : Nat)) (by omega : ((k5 : Nat) : Int) < ((8 : Nat) : Int)))) fun _ F1165 => ?_; clear F1163
            have b1167 := (b1133.ext hx1157)
            have b1168 := (b1136.ext hx1157)
            have hS1166 : Ext w1156 w1156 ∧ Blk w1156 g2 80 (u32Vals hh2) ∧ Blk w1156 g125 89 (u32Vals v) := ⟨(Ext.refl w1156), b1167, b1168⟩
            refine qs 3 (.int .u32 ((hh2.getD k5 0).toNat : Nat)) F1165 rfl rfl hS1166 (fun W hW => (rn_load (isAgg_no Tryd.underlying79 rfl) (F1165.get rfl) (blk_word hW.2.1 (by omega) (by have := (show List.length hh2 = _ from hhl); omega)))) fun _ F1170 => ?_; clear F1165
            refine qp 4 (.int .i64 (k5 : Nat)) F1170 rfl rfl (fun W => (rn_move (F1170.get rfl))) fun _ F1172 => ?_; clear F1170
            refine qp 5 (.pointer (some ⟨g125, 0 + k5, none⟩)) F1172 rfl rfl (fun W => (rn_indexArr Tryd.underlying89 inf79 (F1172.get rfl) (F1172.get rfl) (by omega : (0 : Int) ≤ (k5 : Nat)) (by omega : ((k5 : Nat) : Int) < ((16 : Nat) : Int)))) fun _ F1174 => ?_; clear F1172
            refine qs 6 (.int .u32 ((v.getD k5 0).toNat : Nat)) F1174 rfl rfl hS1166 (fun W hW => (rn_load (isAgg_no Tryd.underlying79 rfl) (F1174.get rfl) (blk_word hW.2.2 (by omega) (by have := (show List.length v = _ from hvl); omega)))) fun _ F1176 => ?_; clear F1174
            refine qp 7 (.int .u32 (((hh2.getD k5 0) ^^^ (v.getD k5 0)).toNat : Nat)) F1176 rfl rfl (fun W => (rn_xor32 (a := (hh2.getD k5 0)) (b := (v.getD k5 0)) (F1176.get rfl) (F1176.get rfl))) fun _ F1178 => ?_; clear F1176
            refine qp 8 (.int .i64 (k5 : Nat)) F1178 rfl rfl (fun W => (rn_move (F1178.get rfl))) fun _ F1180 => ?_; clear F1178
            refine qp 9 (.int .i64 (8 + k5 : Nat)) F1180 rfl rfl (fun W => (rn_addN (a := 8) (b := k5) rfl (F1180.get rfl) (by omega))) fun _ F1182 => ?_; clear F1180
            refine qp 10 (.pointer (some ⟨g125, 0 + (8 + k5), none⟩)) F1182 rfl rfl (fun W => (rn_indexArr Tryd.underlying89 inf79 (F1182.get rfl) (F1182.get rfl) (by omega : (0 : Int) ≤ (8 + k5 : Nat)) (by omega : ((8 + k5 : Nat) : Int) < ((16 : Nat) : Int)))) fun _ F1184 => ?_; clear F1182
            refine qs 11 (.int .u32 ((v.getD (8 + k5) 0).toNat : Nat)) F1184 rfl rfl hS1166 (fun W hW => (rn_load (isAgg_no Tryd.underlying79 rfl) (F1184.get rfl) (blk_word hW.2.2 (by omega) (by have := (show List.length v = _ from hvl); omega)))) fun _ F1186 => ?_; clear F1184
            refine qp 12 (.int .u32 ((((hh2.getD k5 0) ^^^ (v.getD k5 0)) ^^^ (v.getD (8 + k5) 0)).toNat : Nat)) F1186 rfl rfl (fun W => (rn_xor32 (a := ((hh2.getD k5 0) ^^^ (v.getD k5 0))) (b := (v.getD (8 + k5) 0)) (F1186.get rfl) (F1186.get rfl))) fun _ F1188 => ?_; clear F1186
            refine qp 13 (.pointer (some ⟨g2, 0 + k5, none⟩)) F1188 rfl rfl (fun W => (rn_indexArr Tryd.underlying80 inf79 (F1188.get rfl) (F1188.get rfl) (by omega : (0 : Int) ≤ (k5 : Nat)) (by omega : ((k5 : Nat) : Int) < ((8 : Nat) : Int)))) fun _ F1190 => ?_; clear F1188
            refine any_one (i := 14) (by decide +kernel) rfl ?_
            refine o_store1 (new := (u32Vals (hh2.set k5 (((hh2.getD k5 0) ^^^ (v.getD k5 0)) ^^^ (v.getD (8 + k5) 0))))) F1190 rfl rfl rfl rfl (F1190.get rfl) (F1190.get rfl) b1167 inf79 (by rw [u32Vals_len hhl]; omega) rfl (u32Vals_set (by omega)) ?_
            intro w1191 b1192 hg1193; have z1194 := hg1193.size
            refine ⟨fun h => absurd h (by decide), ?_⟩
            refine any_nil (by decide +kernel) ?_
            refine hK1155 _ _ ?_
            clear hK1155
            have F1195 := (((((((((((((((((((F1190.nil.c F1190 164 rfl).c F1190 19 rfl).c F1190 79 rfl).c F1190 15 rfl).c F1190 14 rfl).c F1190 72 rfl).c F1190 45 rfl).c F1190 13 rfl).c F1190 12 rfl).c F1190 11 rfl).c F1190 22 rfl).c F1190 10 rfl).c F1190 9 rfl).c F1190 8 rfl).c F1190 4 rfl).c F1190 3 rfl).c F1190 2 rfl).c F1190 1 rfl).c F1190 0 rfl)
            clear F1190
            refine wp_region_lit ?_
            refine qv 0 (.int .i64 (k5 : Nat)) F1195 rfl (rn_move (F1195.get rfl)) fun _ F1197 => ?_; clear F1195
            refine qv 1 (.int .i64 (k5 + 1 : Nat)) F1197 rfl (rn_addN (a := k5) (b := 1) (F1197.get rfl) rfl (by omega)) fun _ F1199 => ?_; clear F1197
            refine qv 2 (.int .i64 (k5 + 1 : Nat)) F1199 rfl (rn_assign (F1199.get rfl)) fun _ F1201 => ?_; clear F1199
            refine wpList_nil ?_
            obtain ⟨v1202, e1203⟩ : ∃ z, z = hh2.set k5 (((hh2.getD k5 0) ^^^ (v.getD k5 0)) ^^^ (v.getD (8 + k5) 0)) := ⟨_, rfl⟩
            have hl1204 : v1202.length = 8 := (congrArg List.length e1203).trans (show List.length (hh2.set k5 (((hh2.getD k5 0) ^^^ (v.getD k5 0)) ^^^ (v.getD (8 + k5) 0))) = _ from List.length_set.trans hhl)
            rw [← e1203] at b1192
            have b1205 := ((b1134.ext hx1157).grownN hg1193 (by omega))
            have b1206 := ((b1135.ext hx1157).grownN hg1193 (by omega))
            have b1207 := (b1168.grownN hg1193 (by omega))
            have b1208 := ((b1137.ext hx1157).grownN hg1193 (by omega))
            have b1209 := ((b1138.ext hx1157).grownN hg1193 (by omega))
            refine ⟨⟨(k5 + 1), v1202, ((((((((((((((((((F1201.nil.cons (q_get F1201 (t := 19) rfl (by first | rfl | (congr 1; omega) | (congr 1; done)))).cons (q_get F1201 (t := 79) rfl rfl)).cons (q_get F1201 (t := 15) rfl rfl)).cons (q_get F1201 (t := 14) rfl rfl)).cons (q_get F1201 (t := 72) rfl rfl)).cons (q_get F1201 (t := 45) rfl rfl)).cons (q_get F1201 (t := 13) rfl rfl)).cons (q_get F1201 (t := 12) rfl rfl)).cons (q_get F1201 (t := 11) rfl rfl)).cons (q_get F1201 (t := 22) rfl rfl)).cons (q_get F1201 (t := 10) rfl rfl)).cons (q_get F1201 (t := 9) rfl rfl)).cons (q_get F1201 (t := 8) rfl rfl)).cons (q_get F1201 (t := 4) rfl rfl)).cons (q_get F1201 (t := 3) rfl rfl)).cons (q_get F1201 (t := 2) rfl rfl)).cons (q_get F1201 (t := 1) rfl rfl)).cons (q_get F1201 (t := 0) rfl rfl)), (by omega), (closeTo_r hp1132 e1203), ((((Ext.refl w).trans hx1130).trans hx1157).grownN hg1193 (by omega)), b1192, b1205, b1206, b1207, b1208, b1209, (by omega)⟩, ?_⟩
            rw [F1201.get (t := 19) rfl, hL1140.get (t := 19) rfl]; simp [intOf] <;> omega
          · skip
            refine wp_cond_false (c_false F1153 rfl (decide_eq_false hc1154)) ?_
            refine wp_exit ?_
            refine exit_then ?_
            refine exit_then ?_
            refine exit_here ?_
            refine hK1123 _ _ ?_
            clear hK1123
            refine wp_seq_k (fun K1210 hK1210 => ?_)
            refine wp_region_lit ?_
            refine qv 0 (.agg (u32Vals hh2).toArray) F1153 rfl (rn_loadBlk (F1153.get rfl) b1133 Tryd.underlying80 rfl (inf80.trans (congrArg some (u32Vals_len hhl).symm))) fun _ F1212 => ?_; clear F1153
            refine wpl_op (i := 1) rfl (o_store (cells := (u32Vals hh2)) F1212 rfl rfl rfl rfl (F1212.get rfl) (F1212.get rfl) b1134 (inf80.trans (congrArg some (u32Vals_len hhl).symm)) ((u32Vals_len (show List.length (List.replicate 8 0) = _ from List.length_replicate)).trans (u32Vals_len hhl).symm) (u32Vals_one _) ?_)
            intro w1213 b1214 hg1215; have z1216 := hg1215.size
            refine wpList_nil ?_
            refine hK1210 _ _ ?_
            clear hK1210
            refine wp_ret ?_
            refine retC F1212 rfl rfl b1214 Tryd.underlying80 rfl (inf80.trans (congrArg some (u32Vals_len hhl).symm)) ?_
            have hk8 : k5 = 8 := by omega
            subst hk8
            exact ⟨by rw [absorb_eq hv10 hp1132], (((Ext.refl w).trans hx1130).grownN hg1215 (by omega))⟩

theorem rblock_at (h : List UInt32) (b : List UInt8) (n : UInt64) (last : Bool) {v : Value} (w : World) (hh : h.length = 8) (hf : Fl S w 1 v 64 (byteVals b)) : Calls Tryd.prog 68 #[.agg (u32Vals h).toArray, v, .int .u64 (n.toNat : Nat), .bool last] w (fun e w' => e = .returned (.agg (u32Vals (absorb h b n last)).toArray) ∧ Ext w w') := by
  obtain ⟨A, c, rfl, _⟩ := hf.form
  exact rblock_any h A c b n last w hh hf

end Go.Proofs.YtmjgjopbeokajaaDoor
