/- Contract of Sum. -/
import Derived.Test.YtgodliookpgliaaDoorProg
import Derived.Test.YtgodliookpgliaaDoorDigD
import Derived.Test.YtgodliookpgliaaDoorElA
namespace Go.Proofs.YtgodliookpgliaaDoor
open Go.RowKit

variable {S S' : Nat → Prop}

theorem absorb_at (g : Nat) (h : List UInt32) (b : List UInt8) (n : UInt64) (last : Bool) {A : Option Addr} {c m : Nat} (w : World) (hb : Blk w g 48 (u32Vals h)) (hh : h.length = 8) (hf : Fl S w 1 (.slice A m c) m (byteVals b)) (h64 : m ≤ 64) (hG : Glob w) :
    Calls Tryd.prog 24 #[.pointer (some ⟨g, 0, none⟩), .slice A m c, .int .u64 (n.toNat : Nat), .bool last] w (fun e w' => e = .returned (.tuple #[]) ∧ Blk w' g 48 (u32Vals (absorb h b n last)) ∧ w.grownBy w' (some g)) := by
  have hm : m = b.length := by have := hf.len; simp [byteVals] at this; omega
  subst hm
  exact absorb_any g h A c b n last w hb hh hf h64 hG
theorem feed_step {h : List UInt32} {n : Nat} {b : List UInt8} {h0 : List UInt32} {b0 : List UInt8} (hm : ¬ b.length ≤ 64) (e : feed h n b = feed h0 0 b0) : feed (absorb h (b.take 64) (UInt64.ofNat n + 64) false) (n + 64) (b.drop 64) = feed h0 0 b0 := by
  rw [← e, show feed h n b = feed (absorb h (b.take 64) (UInt64.ofNat (n + 64)) false) (n + 64) (b.drop 64) from by rw [feed, if_neg hm], UInt64.ofNat_add]; rfl
theorem feed_last {h : List UInt32} {n m : Nat} {b : List UInt8} {b0 : List UInt8} (hl : b.length = m) (hm : b.length ≤ 64) (e : feed h n b = feed first 0 b0) : out (absorb h b (UInt64.ofNat n + UInt64.ofNat m) true) = bsum b0 := by
  subst hl
  rw [bsum, ← e, feed, if_pos hm, UInt64.ofNat_add]
def outTo (h : List UInt32) (k : Nat) : List UInt8 := (List.range k).map (outByte h) ++ List.replicate (32 - k) 0
theorem outTo_len {h : List UInt32} {k : Nat} (hk : k ≤ 32) : (outTo h k).length = 32 := by simp [outTo]; omega
theorem outTo_all (h : List UInt32) : outTo h 32 = out h := by simp [outTo, out]
theorem outTo_step {h : List UInt32} {k : Nat} {d d' : List UInt8} (hk : k < 32) (hd : d = outTo h k) (he : d' = d.set k (h.getD (k / 4) 0 >>> UInt32.ofNat (8 * (k % 4))).toUInt8) : d' = outTo h (k + 1) := by
  rw [he, hd, outTo, outTo, List.set_append_right _ _ (by simp), List.range_succ, List.map_append, List.append_assoc]
  congr 1
  simp only [List.length_map, List.length_range, Nat.sub_self]
  rw [show 32 - k = (32 - (k + 1)) + 1 by omega, List.replicate_succ]
  rfl
theorem bsum_len (b : List UInt8) : (bsum b).length = 32 := by simp [bsum, out]
def sliceLen : Value → Nat | .slice _ n _ => n | _ => 0

set_option maxRecDepth 100000 in
set_option maxHeartbeats 1000000 in
theorem sum_any (A : Option Addr) (c : Nat) (b : List UInt8) (w : World) (hf : Fl S w 1 (.slice A b.length c) b.length (byteVals b)) (hG : Glob w) :
    Calls Tryd.prog 11 #[.slice A b.length c] w (fun e w' => e = .returned (.agg (byteVals (bsum b)).toArray) ∧ Ext w w') := by
  have hc : Fl (Clip S w) w 1 (.slice A b.length c) b.length (byteVals b) := hf.clip
  have hcc := (Fl.cel hc).2.1
  refine calls_enter (l := [(.slice A b.length c)]) Tryd.func11 rfl rfl rfl (fun aA hF => ?_)
  refine wp_seq_k (fun K1 hK1 => ?_)
  refine wp_region_lit ?_
  refine wpl_op (i := 0) rfl (o_new (fun g => (.pointer (some ⟨g, 0, none⟩))) (byteVals (List.replicate 32 0)) 26 hF rfl rfl rfl rfl (by kernel_rfl) ?_)
  intro g2 w3 a8 hF9 z6 z7 b4 hx5; clear hF
  refine wpList_nil ?_
  refine hK1 _ _ ?_
  clear hK1
  refine wp_seq_k (fun K10 hK10 => ?_)
  refine wp_region_lit ?_
  refine wpl_op (i := 0) rfl (o_val (v := (.agg (u32Vals iv).toArray)) hF9 rfl rfl rfl rfl (rn_loadN (cs := u32Vals iv) rfl Tryd.underlying48 rfl ((by kernel_rfl : (Tryd.prog.info? 48).map (·.size) = some 8).trans (congrArg some (u32Vals_len iv_len).symm)) (fun j v hv => (hG.ext ((Ext.refl w).trans hx5)).at0 j v hv)) ?_)
  intro a11 hF12; clear hF9
  refine wpl_op (i := 1) rfl (o_new (fun g => (.pointer (some ⟨g, 0, none⟩))) (u32Vals (List.replicate 8 0)) 48 hF12 rfl rfl rfl rfl (by kernel_rfl) ?_)
  intro g13 w14 a19 hF20 z17 z18 b15 hx16; clear hF12
  refine wpl_op (i := 2) rfl (o_store (cells := (u32Vals iv)) hF20 rfl rfl rfl rfl (hF20.get rfl) (hF20.get rfl) b15 ((by kernel_rfl : (Tryd.prog.info? 48).map (·.size) = some 8).trans (congrArg some (u32Vals_len iv_len).symm)) ((u32Vals_len (show List.length (List.replicate 8 0) = _ from List.length_replicate)).trans (u32Vals_len iv_len).symm) (u32Vals_one _) ?_)
  intro w21 b22 hg23; have z24 := hg23.size
  refine wpList_nil ?_
  refine hK10 _ _ ?_
  clear hK10
  refine wp_seq_k (fun K25 hK25 => ?_)
  refine wp_region_lit ?_
  refine wpl_op (i := 0) rfl (o_val (v := (.pointer (some ⟨g13, 0 + 0, none⟩))) hF20 rfl rfl rfl rfl (rn_indexArr Tryd.underlying48 (by kernel_rfl : (Tryd.prog.info? 47).map (·.size) = some 1) (hF20.get rfl) rfl (by omega : (0 : Int) ≤ 0) (by omega : (0 : Int) < ((8 : Nat) : Int))) ?_)
  intro a26 hF27; clear hF20
  refine wpl_op (i := 1) rfl (o_val (v := (.int .u32 ((iv.getD 0 0).toNat : Nat))) hF27 rfl rfl rfl rfl (rn_load (isAgg_no Tryd.underlying47 rfl) (hF27.get rfl) (blk_word b22 (by omega) (by have := (show List.length iv = _ from iv_len); omega))) ?_)
  intro a28 hF29; clear hF27
  refine wpl_op (i := 2) rfl (o_val (v := (.int .u32 (((iv.getD 0 0) ^^^ (16842784 : UInt32)).toNat : Nat))) hF29 rfl rfl rfl rfl (rn_xor32 (a := (iv.getD 0 0)) (b := (16842784 : UInt32)) (hF29.get rfl) rfl) ?_)
  intro a30 hF31; clear hF29
  refine wpl_op (i := 3) rfl (o_val (v := (.pointer (some ⟨g13, 0 + 0, none⟩))) hF31 rfl rfl rfl rfl (rn_indexArr Tryd.underlying48 (by kernel_rfl : (Tryd.prog.info? 47).map (·.size) = some 1) (hF31.get rfl) rfl (by omega : (0 : Int) ≤ 0) (by omega : (0 : Int) < ((8 : Nat) : Int))) ?_)
  intro a32 hF33; clear hF31
  refine wpl_op (i := 4) rfl (o_store1 (new := (u32Vals (iv.set 0 ((iv.getD 0 0) ^^^ (16842784 : UInt32))))) hF33 rfl rfl rfl rfl (hF33.get rfl) (hF33.get rfl) b22 (by kernel_rfl : (Tryd.prog.info? 47).map (·.size) = some 1) (by rw [u32Vals_len iv_len]; omega) rfl (u32Vals_set (by omega)) ?_)
  intro w34 b35 hg36; have z37 := hg36.size
  refine wpList_nil ?_
  refine hK25 _ _ ?_
  clear hK25
  have hF38 := (((hF33.nil.cons (hF33.get (t := 3) (v := (.pointer (some ⟨g13, 0, none⟩))) rfl)).cons (hF33.get (t := 2) (v := (.pointer (some ⟨g2, 0, none⟩))) rfl)).cons (hF33.get (t := 0) (v := (.slice A b.length c)) rfl))
  clear hF33
  refine wp_seq_k (fun K39 hK39 => ?_)
  refine wp_region_lit ?_
  refine wpl_op (i := 0) rfl (o_val (v := (.int .u64 0)) hF38 rfl rfl rfl rfl (rn_assign rfl) ?_)
  intro a40 hF41; clear hF38
  refine wpList_nil ?_
  refine hK39 _ _ ?_
  clear hK39
  refine wp_seq_k (fun K42 hK42 => ?_)
  refine wp_block ?_
  have d43 := (hc.pres (((((Pres.refl w).ext hx5).ext hx16).grownN hg23 (fun h => by simp only [Clip, Fr] at h; omega)).grownN hg36 (fun h => by simp only [Clip, Fr] at h; omega)))
  have b44 : Blk w34 g2 26 (byteVals (List.replicate 32 0)) := (((b4.ext hx16).grownN hg23 (by omega)).grownN hg36 (by omega))
  refine wp_loop (fun a' W => ∃ (A1 : Option Addr) (c1 : Nat) (m1 : Nat) (b1 : List UInt8) (n1 : Nat) (hh : List UInt32), Sl 45 [(0, (.slice A1 m1 c1)), (2, (.pointer (some ⟨g2, 0, none⟩))), (3, (.pointer (some ⟨g13, 0, none⟩))), (4, (.int .u64 ((UInt64.ofNat n1).toNat : Nat)))] a' ∧ hh.length = 8 ∧ b1.length = m1 ∧ feed hh n1 b1 = feed first 0 b ∧ Ext w W ∧ Blk W g2 26 (byteVals (List.replicate 32 0)) ∧ Blk W g13 48 (u32Vals hh) ∧ Fl (Clip S w) W 1 (.slice A1 m1 c1) m1 (byteVals b1)) (fun a' _ => (sliceLen (a'.eval (.tmp 0)))) ⟨A, c, b.length, b, 0, iv.set 0 ((iv.getD 0 0) ^^^ (16842784 : UInt32)), ((((hF41.nil.cons (q_get hF41 (t := 4) rfl (by first | rfl | (congr 1; omega) | (simp only [UInt64.ofNat_add]; rfl)))).cons (q_get hF41 (t := 3) rfl rfl)).cons (q_get hF41 (t := 2) rfl rfl)).cons (q_get hF41 (t := 0) rfl (by first | rfl | (congr 1; omega) | (simp only [UInt64.ofNat_add]; rfl)))), rfl, rfl, rfl, (((((Ext.refl w).trans hx5).trans hx16).grownN hg23 (by omega)).grownN hg36 (by omega)), b44, b35, d43⟩ ?_
  clear hF41
  rintro a45 w46 ⟨A1, c1, m1, b1, n1, hh, hF47, hp49, hp50, hp51, hx48, b52, b53, hf54⟩
  have hL55 := hF47
  have z56 := hx48.size
  have z57 := b52.lt
  have z58 := b53.lt
  have hhl : hh.length = 8 := hp49
  have hcc1 := (Fl.cel hf54).2.1
  refine wp_seq_k (fun K59 hK59 => ?_)
  refine wp_seq_k (fun K60 hK60 => ?_)
  refine wp_region_lit ?_
  refine wpl_op (i := 0) rfl (o_val (v := (.slice A1 m1 c1)) hF47 rfl rfl rfl rfl (rn_move (hF47.get rfl)) ?_)
  intro a61 hF62; clear hF47
  refine wpl_op (i := 1) rfl (o_val (v := (.int .i64 (m1 : Nat))) hF62 rfl rfl rfl rfl (rn_len_slice Tryd.underlying22 (hF62.get rfl)) ?_)
  intro a63 hF64; clear hF62
  refine wpl_op (i := 2) rfl (o_val (v := (.bool (decide ((64 : Int) < ((m1 : Nat) : Int))))) hF64 rfl rfl rfl rfl (rn_gtr (hF64.get rfl) rfl) ?_)
  intro a65 hF66; clear hF64
  refine wpList_nil ?_
  refine hK60 _ _ ?_
  clear hK60
  by_cases hc67 : (64 : Int) < ((m1 : Nat) : Int)
  · skip
    refine wp_cond_true (c_true hF66 rfl (decide_eq_true hc67)) ?_
    refine wp_skip ?_
    refine hK59 _ _ ?_
    clear hK59
    refine wp_block ?_
    refine wp_seq_k (fun K68 hK68 => ?_)
    refine wp_region_lit ?_
    refine wpl_op (i := 0) rfl (o_val (v := (.int .u64 ((UInt64.ofNat n1).toNat : Nat))) hF66 rfl rfl rfl rfl (rn_move (hF66.get rfl)) ?_)
    intro a69 hF70; clear hF66
    refine wpl_op (i := 1) rfl (o_val (v := (.int .u64 (((UInt64.ofNat n1) + (64 : UInt64)).toNat : Nat))) hF70 rfl rfl rfl rfl (rn_add64 (a := (UInt64.ofNat n1)) (b := (64 : UInt64)) (hF70.get rfl) rfl) ?_)
    intro a71 hF72; clear hF70
    refine wpl_op (i := 2) rfl (o_val (v := (.int .u64 (((UInt64.ofNat n1) + (64 : UInt64)).toNat : Nat))) hF72 rfl rfl rfl rfl (rn_assign (hF72.get rfl)) ?_)
    intro a73 hF74; clear hF72
    refine wpList_nil ?_
    refine hK68 _ _ ?_
    clear hK68
    have hF75 := (((((hF74.nil.cons (hF74.get (t := 13) (v := (.bool (decide ((64 : Int) < ((m1 : Nat) : Int))))) rfl)).cons (hF74.get (t := 4) (v := (.int .u64 (((UInt64.ofNat n1) + (64 : UInt64)).toNat : Nat))) rfl)).cons (hF74.get (t := 3) (v := (.pointer (some ⟨g13, 0, none⟩))) rfl)).cons (hF74.get (t := 2) (v := (.pointer (some ⟨g2, 0, none⟩))) rfl)).cons (hF74.get (t := 0) (v := (.slice A1 m1 c1)) rfl))
    clear hF74
    refine wp_seq_k (fun K76 hK76 => ?_)
    refine wp_region_lit ?_
    refine wpl_op (i := 0) rfl (o_val (v := (.slice A1 m1 c1)) hF75 rfl rfl rfl rfl (rn_move (hF75.get rfl)) ?_)
    intro a77 hF78; clear hF75
    refine wpl_op (i := 1) rfl (o_val (v := (.slice A1 64 c1)) hF78 rfl rfl rfl rfl (rn_sliceHi Tryd.underlying22 (by kernel_rfl : (Tryd.prog.info? 5).map (·.size) = some 1) (hF78.get rfl) rfl (by omega : (0 : Int) ≤ 64) (by omega : (64 : Int) ≤ ((c1 : Nat) : Int))) ?_)
    intro a79 hF80; clear hF78
    refine wpl_op (i := 2) rfl (o_val (v := (.int .u64 (((UInt64.ofNat n1) + (64 : UInt64)).toNat : Nat))) hF80 rfl rfl rfl rfl (rn_move (hF80.get rfl)) ?_)
    intro a81 hF82; clear hF80
    refine wpl_op (i := 3) rfl (o_call hF82 rfl rfl rfl rfl (rn_call (args4 (hF82.get rfl) (hF82.get rfl) (hF82.get rfl) rfl) rfl (by kernel_rfl)) (absorb_at g13 hh (b1.take 64) ((UInt64.ofNat n1) + (64 : UInt64)) false _ b53 hhl (Fl.take_eq (j := 64) hf54 (by omega) (byteVals_take1 _ _)) (by omega) (hG.ext ((Ext.refl w).trans hx48))) ?_)
    rintro _ w83 ⟨rfl, b84, hg85⟩
    refine ⟨_, rfl, ?_⟩; intro a86 hF87; clear hF82; have z88 := hg85.size
    refine wpList_nil ?_
    refine hK76 _ _ ?_
    clear hK76
    have hF89 := (((((hF87.nil.cons (hF87.get (t := 13) (v := (.bool (decide ((64 : Int) < ((m1 : Nat) : Int))))) rfl)).cons (hF87.get (t := 4) (v := (.int .u64 (((UInt64.ofNat n1) + (64 : UInt64)).toNat : Nat))) rfl)).cons (hF87.get (t := 3) (v := (.pointer (some ⟨g13, 0, none⟩))) rfl)).cons (hF87.get (t := 2) (v := (.pointer (some ⟨g2, 0, none⟩))) rfl)).cons (hF87.get (t := 0) (v := (.slice A1 m1 c1)) rfl))
    clear hF87
    refine wp_region_lit ?_
    refine wpl_op (i := 0) rfl (o_val (v := (.slice A1 m1 c1)) hF89 rfl rfl rfl rfl (rn_move (hF89.get rfl)) ?_)
    intro a90 hF91; clear hF89
    have d95 := (hf54.pres ((Pres.refl w46).grownN hg85 (fun h => by simp only [Clip, Fr] at h; omega)))
    obtain ⟨b92, o93, hA94, -⟩ := Fl.at d95 (by omega)
    refine wpl_op (i := 1) rfl (o_val (v := (.slice (some ⟨b92, o93 + 64 * 1, none⟩) (m1 - 64) (c1 - 64))) hF91 rfl rfl rfl rfl (rn_sliceLo (l := 64) Tryd.underlying22 (by kernel_rfl : (Tryd.prog.info? 5).map (·.size) = some 1) ((hF91.get rfl).trans (by rw [hA94])) rfl (by omega : 64 ≤ m1) (by omega : 64 < c1)) ?_)
    intro a96 hF97; clear hF91
    refine wpl_op (i := 2) rfl (o_val (v := (.slice (some ⟨b92, o93 + 64 * 1, none⟩) (m1 - 64) (c1 - 64))) hF97 rfl rfl rfl rfl (rn_assign (hF97.get rfl)) ?_)
    intro a98 hF99; clear hF97
    refine wpList_nil ?_
    have b100 : Blk w83 g2 26 (byteVals (List.replicate 32 0)) := (b52.grownN hg85 (by omega))
    refine ⟨⟨(some ⟨b92, o93 + 64 * 1, none⟩), c1 - 64, m1 - 64, b1.drop 64, (n1 + 64), absorb hh (b1.take 64) ((UInt64.ofNat n1) + (64 : UInt64)) false, ((((hF99.nil.cons (q_get hF99 (t := 4) rfl (by first | rfl | (congr 1; omega) | (simp only [UInt64.ofNat_add]; rfl)))).cons (q_get hF99 (t := 3) rfl rfl)).cons (q_get hF99 (t := 2) rfl rfl)).cons (q_get hF99 (t := 0) rfl (by first | rfl | (congr 1; omega) | (simp only [UInt64.ofNat_add]; rfl)))), (absorb_len hhl), (by rw [List.length_drop]; omega), (feed_step (by omega) hp51), (((Ext.refl w).trans hx48).grownN hg85 (by omega)), b100, b84, (Fl.drop_eq (j := 64) d95 hA94 (by omega) (byteVals_drop1 _ _))⟩, ?_⟩
    rw [hF99.get (t := 0) rfl, hL55.get (t := 0) rfl]; simp only [sliceLen]; omega
  · skip
    refine wp_cond_false (c_false hF66 rfl (decide_eq_false hc67)) ?_
    refine wp_exit ?_
    refine exit_then ?_
    refine exit_then ?_
    refine exit_here ?_
    refine hK42 _ _ ?_
    clear hK42
    refine wp_seq_k (fun K101 hK101 => ?_)
    refine wp_region_lit ?_
    refine wpl_op (i := 0) rfl (o_val (v := (.slice A1 m1 c1)) hF66 rfl rfl rfl rfl (rn_move (hF66.get rfl)) ?_)
    intro a102 hF103; clear hF66
    refine wpl_op (i := 1) rfl (o_val (v := (.int .u64 ((UInt64.ofNat n1).toNat : Nat))) hF103 rfl rfl rfl rfl (rn_move (hF103.get rfl)) ?_)
    intro a104 hF105; clear hF103
    refine wpl_op (i := 2) rfl (o_val (v := (.slice A1 m1 c1)) hF105 rfl rfl rfl rfl (rn_move (hF105.get rfl)) ?_)
    intro a106 hF107; clear hF105
    refine wpl_op (i := 3) rfl (o_val (v := (.int .i64 (m1 : Nat))) hF107 rfl rfl rfl rfl (rn_len_slice Tryd.underlying22 (hF107.get rfl)) ?_)
    intro a108 hF109; clear hF107
    refine wpl_op (i := 4) rfl (o_val (v := (.int .u64 ((UInt64.ofNat m1).toNat : Nat))) hF109 rfl rfl rfl rfl (rn_convW Tryd.underlying3 Tryd.underlying49 (hF109.get rfl) (cvi_64 m1 (by omega))) ?_)
    intro a110 hF111; clear hF109
    refine wpl_op (i := 5) rfl (o_val (v := (.int .u64 (((UInt64.ofNat n1) + (UInt64.ofNat m1)).toNat : Nat))) hF111 rfl rfl rfl rfl (rn_add64 (a := (UInt64.ofNat n1)) (b := (UInt64.ofNat m1)) (hF111.get rfl) (hF111.get rfl)) ?_)
    intro a112 hF113; clear hF111
    refine wpl_op (i := 6) rfl (o_call hF113 rfl rfl rfl rfl (rn_call (args4 (hF113.get rfl) (hF113.get rfl) (hF113.get rfl) rfl) rfl (by kernel_rfl)) (absorb_at g13 hh b1 ((UInt64.ofNat n1) + (UInt64.ofNat m1)) true _ b53 hhl hf54 (by omega) (hG.ext ((Ext.refl w).trans hx48))) ?_)
    rintro _ w114 ⟨rfl, b115, hg116⟩
    refine ⟨_, rfl, ?_⟩; intro a117 hF118; clear hF113; have z119 := hg116.size
    refine wpList_nil ?_
    refine hK101 _ _ ?_
    clear hK101
    have hF120 := (((((hF118.nil.cons (hF118.get (t := 13) (v := (.bool (decide ((64 : Int) < ((m1 : Nat) : Int))))) rfl)).cons (hF118.get (t := 4) (v := (.int .u64 ((UInt64.ofNat n1).toNat : Nat))) rfl)).cons (hF118.get (t := 3) (v := (.pointer (some ⟨g13, 0, none⟩))) rfl)).cons (hF118.get (t := 2) (v := (.pointer (some ⟨g2, 0, none⟩))) rfl)).cons (hF118.get (t := 0) (v := (.slice A1 m1 c1)) rfl))
    clear hF118
    refine wp_seq_k (fun K121 hK121 => ?_)
    refine wp_seq_k (fun K122 hK122 => ?_)
    refine wp_region_lit ?_
    refine wpl_op (i := 0) rfl (o_val (v := (.int .i64 0)) hF120 rfl rfl rfl rfl (rn_move rfl) ?_)
    intro a123 hF124; clear hF120
    refine wpList_nil ?_
    refine hK122 _ _ ?_
    clear hK122
    refine wp_block ?_
    obtain ⟨v125, e126⟩ : ∃ z, z = absorb hh b1 ((UInt64.ofNat n1) + (UInt64.ofNat m1)) true := ⟨_, rfl⟩
    have hl127 : v125.length = 8 := (congrArg List.length e126).trans (absorb_len hhl)
    rw [← e126] at b115
    have d128 := (hf54.pres ((Pres.refl w46).grownN hg116 (fun h => by simp only [Clip, Fr] at h; omega)))
    have b129 : Blk w114 g2 26 (byteVals (List.replicate 32 0)) := (b52.grownN hg116 (by omega))
    refine wp_loop (fun a' W => ∃ (k2 : Nat) (dd : List UInt8), Sl 45 [(0, (.slice A1 m1 c1)), (2, (.pointer (some ⟨g2, 0, none⟩))), (3, (.pointer (some ⟨g13, 0, none⟩))), (4, (.int .u64 ((UInt64.ofNat n1).toNat : Nat))), (13, (.bool (decide ((64 : Int) < ((m1 : Nat) : Int))))), (29, (.int .i64 (k2 : Nat)))] a' ∧ k2 ≤ 32 ∧ dd = outTo v125 k2 ∧ Ext w W ∧ Blk W g2 26 (byteVals dd) ∧ Blk W g13 48 (u32Vals v125) ∧ Fl (Clip S w) W 1 (.slice A1 m1 c1) m1 (byteVals b1)) (fun a' _ => 32 - (intOf (a'.eval (.tmp 29))).toNat) ⟨0, (List.replicate 32 0), ((((((hF124.nil.cons (q_get hF124 (t := 29) rfl (by first | rfl | (congr 1; omega) | (simp only [UInt64.ofNat_add]; rfl)))).cons (q_get hF124 (t := 13) rfl rfl)).cons (q_get hF124 (t := 4) rfl rfl)).cons (q_get hF124 (t := 3) rfl rfl)).cons (q_get hF124 (t := 2) rfl rfl)).cons (q_get hF124 (t := 0) rfl rfl)), (by omega), rfl, (((Ext.refl w).trans hx48).grownN hg116 (by omega)), b129, b115, d128⟩ ?_
    clear hF124
    rintro a130 w131 ⟨k2, dd, hF132, hp134, hp135, hx133, b136, b137, hf138⟩
    have hL139 := hF132
    have z140 := hx133.size
    have z141 := b136.lt
    have z142 := b137.lt
    have hdl : dd.length = 32 := by rw [hp135]; exact outTo_len (by omega)
    refine wp_seq_k (fun K143 hK143 => ?_)
    refine wp_region_lit ?_
    refine wpl_op (i := 0) rfl (o_val (v := (.bool (decide (((k2 : Nat) : Int) < (32 : Int))))) hF132 rfl rfl rfl rfl (rn_lss (hF132.get rfl) rfl) ?_)
    intro a144 hF145; clear hF132
    refine wpList_nil ?_
    refine hK143 _ _ ?_
    clear hK143
    refine wp_seq_k (fun K146 hK146 => ?_)
    by_cases hc147 : ((k2 : Nat) : Int) < (32 : Int)
    · skip
      refine wp_cond_true (c_true hF145 rfl (decide_eq_true hc147)) ?_
      refine wp_skip ?_
      refine hK146 _ _ ?_
      clear hK146
      refine wp_seq_k (fun K148 hK148 => ?_)
      refine wp_block ?_
      refine wp_seq_k (fun K149 hK149 => ?_)
      refine wp_region_lit ?_
      refine wpl_op (i := 0) rfl (o_val (v := (.int .i64 (k2 : Nat))) hF145 rfl rfl rfl rfl (rn_move (hF145.get rfl)) ?_)
      intro a150 hF151; clear hF145
      refine wpl_op (i := 1) rfl (o_val (v := (.int .i64 (k2 : Nat))) hF151 rfl rfl rfl rfl (rn_assign (hF151.get rfl)) ?_)
      intro a152 hF153; clear hF151
      refine wpList_nil ?_
      refine hK149 _ _ ?_
      clear hK149
      refine wp_region_lit ?_
      refine wpl_op (i := 0) rfl (o_val (v := (.int .i64 (k2 : Nat))) hF153 rfl rfl rfl rfl (rn_move (hF153.get rfl)) ?_)
      intro a154 hF155; clear hF153
      refine wpl_op (i := 1) rfl (o_val (v := (.int .i64 (k2 : Nat))) hF155 rfl rfl rfl rfl (rn_move (hF155.get rfl)) ?_)
      intro a156 hF157; clear hF155
      refine wpl_op (i := 2) rfl (o_val (v := (.int .i64 (k2 / 4 : Nat))) hF157 rfl rfl rfl rfl (rn_quoN (a := k2) (b := 4) (hF157.get rfl) rfl (by omega) (by omega)) ?_)
      intro a158 hF159; clear hF157
      refine wpl_op (i := 3) rfl (o_val (v := (.pointer (some ⟨g13, 0 + (k2 / 4), none⟩))) hF159 rfl rfl rfl rfl (rn_indexArr Tryd.underlying48 (by kernel_rfl : (Tryd.prog.info? 47).map (·.size) = some 1) (hF159.get rfl) (hF159.get rfl) (by omega : (0 : Int) ≤ (k2 / 4 : Nat)) (by omega : ((k2 / 4 : Nat) : Int) < ((8 : Nat) : Int))) ?_)
      intro a160 hF161; clear hF159
      refine wpl_op (i := 4) rfl (o_val (v := (.int .u32 ((v125.getD (k2 / 4) 0).toNat : Nat))) hF161 rfl rfl rfl rfl (rn_load (isAgg_no Tryd.underlying47 rfl) (hF161.get rfl) (blk_word b137 (by omega) (by have := (show List.length v125 = _ from hl127); omega))) ?_)
      intro a162 hF163; clear hF161
      refine wpl_op (i := 5) rfl (o_val (v := (.int .i64 (k2 : Nat))) hF163 rfl rfl rfl rfl (rn_move (hF163.get rfl)) ?_)
      intro a164 hF165; clear hF163
      refine wpl_op (i := 6) rfl (o_val (v := (.int .i64 (k2 % 4 : Nat))) hF165 rfl rfl rfl rfl (rn_remN (a := k2) (b := 4) (hF165.get rfl) rfl (by omega)) ?_)
      intro a166 hF167; clear hF165
      refine wpl_op (i := 7) rfl (o_val (v := (.int .i64 (8 * (k2 % 4) : Nat))) hF167 rfl rfl rfl rfl (rn_mulN (a := 8) (b := k2 % 4) rfl (hF167.get rfl) (by omega)) ?_)
      intro a168 hF169; clear hF167
      refine wpl_op (i := 8) rfl (o_val (v := (.int .u32 (((v125.getD (k2 / 4) 0) >>> UInt32.ofNat (8 * (k2 % 4))).toNat : Nat))) hF169 rfl rfl rfl rfl (rn_shr32 (a := (v125.getD (k2 / 4) 0)) (n := (8 * (k2 % 4))) (hF169.get rfl) (hF169.get rfl) (by omega)) ?_)
      intro a170 hF171; clear hF169
      refine wpl_op (i := 9) rfl (o_val (v := (.int .u8 ((((v125.getD (k2 / 4) 0) >>> UInt32.ofNat (8 * (k2 % 4))).toUInt8).toNat : Nat))) hF171 rfl rfl rfl rfl (rn_convW Tryd.underlying47 Tryd.underlying5 (hF171.get rfl) (cv32_8 ((v125.getD (k2 / 4) 0) >>> UInt32.ofNat (8 * (k2 % 4))))) ?_)
      intro a172 hF173; clear hF171
      refine wpl_op (i := 10) rfl (o_val (v := (.pointer (some ⟨g2, 0 + k2, none⟩))) hF173 rfl rfl rfl rfl (rn_indexArr Tryd.underlying26 (by kernel_rfl : (Tryd.prog.info? 5).map (·.size) = some 1) (hF173.get rfl) (hF173.get rfl) (by omega : (0 : Int) ≤ (k2 : Nat)) (by omega : ((k2 : Nat) : Int) < ((32 : Nat) : Int))) ?_)
      intro a174 hF175; clear hF173
      refine wpl_op (i := 11) rfl (o_store1 (new := (byteVals (dd.set k2 (((v125.getD (k2 / 4) 0) >>> UInt32.ofNat (8 * (k2 % 4))).toUInt8)))) hF175 rfl rfl rfl rfl (hF175.get rfl) (hF175.get rfl) b136 (by kernel_rfl : (Tryd.prog.info? 5).map (·.size) = some 1) (by rw [byteVals_len hdl]; omega) rfl (byteVals_set (by omega)) ?_)
      intro w176 b177 hg178; have z179 := hg178.size
      refine wpList_nil ?_
      refine hK148 _ _ ?_
      clear hK148
      have hF180 := ((((((((hF175.nil.cons (hF175.get (t := 5) (v := (.int .i64 (k2 : Nat))) rfl)).cons (hF175.get (t := 30) (v := (.bool (decide (((k2 : Nat) : Int) < (32 : Int))))) rfl)).cons (hF175.get (t := 29) (v := (.int .i64 (k2 : Nat))) rfl)).cons (hF175.get (t := 13) (v := (.bool (decide ((64 : Int) < ((m1 : Nat) : Int))))) rfl)).cons (hF175.get (t := 4) (v := (.int .u64 ((UInt64.ofNat n1).toNat : Nat))) rfl)).cons (hF175.get (t := 3) (v := (.pointer (some ⟨g13, 0, none⟩))) rfl)).cons (hF175.get (t := 2) (v := (.pointer (some ⟨g2, 0, none⟩))) rfl)).cons (hF175.get (t := 0) (v := (.slice A1 m1 c1)) rfl))
      clear hF175
      refine wp_region_lit ?_
      refine wpl_op (i := 0) rfl (o_val (v := (.int .i64 (k2 + 1 : Nat))) hF180 rfl rfl rfl rfl (rn_addN (a := k2) (b := 1) (hF180.get rfl) rfl (by omega)) ?_)
      intro a181 hF182; clear hF180
      refine wpl_op (i := 1) rfl (o_val (v := (.int .i64 (k2 + 1 : Nat))) hF182 rfl rfl rfl rfl (rn_move (hF182.get rfl)) ?_)
      intro a183 hF184; clear hF182
      refine wpList_nil ?_
      obtain ⟨v185, e186⟩ : ∃ z, z = dd.set k2 (((v125.getD (k2 / 4) 0) >>> UInt32.ofNat (8 * (k2 % 4))).toUInt8) := ⟨_, rfl⟩
      have hl187 : v185.length = 32 := (congrArg List.length e186).trans (show List.length (dd.set k2 (((v125.getD (k2 / 4) 0) >>> UInt32.ofNat (8 * (k2 % 4))).toUInt8)) = _ from List.length_set.trans hdl)
      rw [← e186] at b177
      have d188 := (hf138.pres ((Pres.refl w131).grownN hg178 (fun h => by simp only [Clip, Fr] at h; omega)))
      have b189 : Blk w176 g13 48 (u32Vals v125) := (b137.grownN hg178 (by omega))
      refine ⟨⟨(k2 + 1), v185, ((((((hF184.nil.cons (q_get hF184 (t := 29) rfl (by first | rfl | (congr 1; omega) | (simp only [UInt64.ofNat_add]; rfl)))).cons (q_get hF184 (t := 13) rfl rfl)).cons (q_get hF184 (t := 4) rfl rfl)).cons (q_get hF184 (t := 3) rfl rfl)).cons (q_get hF184 (t := 2) rfl rfl)).cons (q_get hF184 (t := 0) rfl rfl)), (by omega), (outTo_step (by omega) hp135 e186), (((Ext.refl w).trans hx133).grownN hg178 (by omega)), b177, b189, d188⟩, ?_⟩
      rw [hF184.get (t := 29) rfl, hL139.get (t := 29) rfl]; simp [intOf]; omega
    · skip
      refine wp_cond_false (c_false hF145 rfl (decide_eq_false hc147)) ?_
      refine wp_exit ?_
      refine exit_then ?_
      refine exit_then ?_
      refine exit_here ?_
      refine hK121 _ _ ?_
      clear hK121
      refine wp_seq_k (fun K190 hK190 => ?_)
      refine wp_region_lit ?_
      refine wpl_op (i := 0) rfl (o_val (v := (.agg (byteVals dd).toArray)) hF145 rfl rfl rfl rfl (rn_loadBlk (hF145.get rfl) b136 Tryd.underlying26 rfl ((by kernel_rfl : (Tryd.prog.info? 26).map (·.size) = some 32).trans (congrArg some (byteVals_len hdl).symm))) ?_)
      intro a191 hF192; clear hF145
      refine wpl_op (i := 1) rfl (o_store (cells := (byteVals dd)) hF192 rfl rfl rfl rfl (hF192.get rfl) (hF192.get rfl) b136 ((by kernel_rfl : (Tryd.prog.info? 26).map (·.size) = some 32).trans (congrArg some (byteVals_len hdl).symm)) ((byteVals_len hdl).trans (byteVals_len hdl).symm) (byteVals_one _) ?_)
      intro w193 b194 hg195; have z196 := hg195.size
      refine wpList_nil ?_
      refine hK190 _ _ ?_
      clear hK190
      refine wp_ret ?_
      refine retC hF192 rfl rfl b194 Tryd.underlying26 rfl ((by kernel_rfl : (Tryd.prog.info? 26).map (·.size) = some 32).trans (congrArg some (byteVals_len hdl).symm)) ?_
      have hd : dd = bsum b := by rw [hp135, show k2 = 32 by omega, outTo_all, e126, feed_last hp50 (by omega) hp51]
      exact ⟨by rw [← hd], (((Ext.refl w).trans hx133).grownN hg195 (by omega))⟩

theorem sum_at {v : Value} {n : Nat} (b : List UInt8) (w : World) (hf : Fl S w 1 v n (byteVals b)) (hG : Glob w) : Calls Tryd.prog 11 #[v] w (fun e w' => e = .returned (.agg (byteVals (bsum b)).toArray) ∧ Ext w w') := by
  have hm : n = b.length := by have := hf.len; simp [byteVals] at this; omega
  subst hm
  obtain ⟨A, c, rfl, _⟩ := hf.form
  exact sum_any A c b w hf hG

end Go.Proofs.YtgodliookpgliaaDoor
