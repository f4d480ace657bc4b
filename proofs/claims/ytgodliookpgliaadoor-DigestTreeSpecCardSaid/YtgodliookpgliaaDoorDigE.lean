/- Contract of Sum. -/
import Derived.Test.YtgodliookpgliaaDoorProg
import Derived.Test.YtgodliookpgliaaDoorDigD
import Derived.Test.YtgodliookpgliaaDoorElA
namespace Go.Proofs.YtgodliookpgliaaDoor
open Go.RowKit

variable {S S' : Nat → Prop}

theorem absorb_at (g : Nat) (h : List UInt32) (b : List UInt8) (n : UInt64) (last : Bool) {A : Option Addr} {c m : Nat} (w : World) (hb : Blk w g 48 (u32Vals h)) (hh : h.length = 8) (hf : Fl S w 1 (.slice A m c) m (byteVals b)) (h64 : m ≤ 64) (hG : Glob w) :
    Calls Tryd.prog 24 #[.pointer (some ⟨g, 0, none⟩), .slice A m c, .int .u64 (n.toNat : Nat), .bool last] w (fun e w' => e = .returned (.tuple #[]) ∧ Blk w' g 48 (u32Vals (absorb h b n last)) ∧ w.grownBy w' (some g)) := by
  have hm : m = b.length := by have := hf.len; simp [byteVals] at this; omega
  subst hm
  exact absorb_any g h A c b n last w hb hh hf h64 hG
theorem feed_step {h : List UInt32} {n : Nat} {b : List UInt8} {h0 : List UInt32} {b0 : List UInt8} (hm : ¬ b.length ≤ 64) (e : feed h n b = feed h0 0 b0) : feed (absorb h (b.take 64) (UInt64.ofNat n + 64) false) (n + 64) (b.drop 64) = feed h0 0 b0 := by
  rw [← e, show feed h n b = feed (absorb h (b.take 64) (UInt64.ofNat (n + 64)) false) (n + 64) (b.drop 64) from by rw [feed, if_neg hm], UInt64.ofNat_add]; rfl
theorem feed_last {h : List UInt32} {n m : Nat} {b : List UInt8} {b0 : List UInt8} (hl : b.length = m) (hm : b.length ≤ 64) (e : feed h n b = feed first 0 b0) : out (absorb h b (UInt64.ofNat n + UInt64.ofNat m) true) = bsum b0 := by
  subst hl
  rw [bsum, ← e, feed, if_pos hm, UInt64.ofNat_add]
def outTo (h : List UInt32) (k : Nat) : List UInt8 := (List.range k).map (outByte h) ++ List.replicate (32 - k) 0
theorem outTo_len {h : List UInt32} {k : Nat} (hk : k ≤ 32) : (outTo h k).length = 32 := by simp [outTo]; omega
theorem outTo_all (h : List UInt32) : outTo h 32 = out h := by simp [outTo, out]
theorem outTo_step {h : List UInt32} {k : Nat} {d d' : List UInt8} (hk : k < 32) (hd : d = outTo h k) (he : d' = d.set k (h.getD (k / 4) 0 >>> UInt32.ofNat (8 * (k % 4))).toUInt8) : d' = outTo h (k + 1) := by
  rw [he, hd, outTo, outTo, List.set_append_right _ _ (by simp), List.range_succ, List.map_append, List.append_assoc]
  congr 1
  simp only [List.length_map, List.length_range, Nat.sub_self]
  rw [show 32 - k = (32 - (k + 1)) + 1 by omega, List.replicate_succ]
  rfl
theorem bsum_len (b : List UInt8) : (bsum b).length = 32 := by simp [bsum, out]
def sliceLen : Value → Nat | .slice _ n _ => n | _ => 0

set_option maxRecDepth 100000 in
set_option maxHeartbeats 1000000 in
theorem sum_any (A : Option Addr) (c : Nat) (b : List UInt8) (w : World) (hf : Fl S w 1 (.slice A b.length c) b.length (byteVals b)) (hG : Glob w) :
    Calls Tryd.prog 11 #[.slice A b.length c] w (fun e w' => e = .returned (.agg (byteVals (bsum b)).toArray) ∧ Ext w w') := by
  have hc : Fl (Clip S w) w 1 (.slice A b.length c) b.length (byteVals b) := hf.clip
  have hcc := (Fl.cel hc).2.1
  refine calls_enter (l := [(.slice A b.length c)]) Tryd.func11 rfl rfl rfl (fun aA hF => ?_)
  refine wp_seq_k (fun K1 hK1 => ?_)
  refine wp_region_lit ?_
  refine wpl_op (i := 0) rfl (o_new (fun g => (.pointer (some ⟨g, 0, none⟩))) (byteVals (List.replicate 32 0)) 26 hF rfl rfl rfl rfl (by kernel_rfl) ?_)
  intro g2 w3 a8 hF9 z6 z7 b4 hx5; clear hF
  refine wpList_nil ?_
  refine hK1 _ _ ?_
  clear hK1
  refine wp_seq_k (fun K10 hK10 => ?_)
  refine wp_region_lit ?_
  refine wpl_op (i := 0) rfl (o_val (v := (.agg (u32Vals iv).toArray)) hF9 rfl rfl rfl rfl (rn_loadN (cs := u32Vals iv) rfl Tryd.underlying48 rfl ((by kernel_rfl : (Tryd.prog.info? 48).map (·.size) = some 8).trans (congrArg some (u32Vals_len iv_len).symm)) (fun j v hv => (hG.ext ((Ext.refl w).trans hx5)).at0 j v hv)) ?_)
  intro a11 hF12; clear hF9
  refine wpl_op (i := 1) rfl (o_new (fun g => (.pointer (some ⟨g, 0, none⟩))) (u32Vals (List.replicate 8 0)) 48 hF12 rfl rfl rfl rfl (by kernel_rfl) ?_)
  intro g13 w14 a19 hF20 z17 z18 b15 hx16; clear hF12
  refine wpl_op (i := 2) rfl (o_store (cells := (u32Vals iv)) hF20 rfl rfl rfl rfl (hF20.get rfl) (hF20.get rfl) b15 ((by kernel_rfl : (Tryd.prog.info? 48).map (·.size) = some 8).trans (congrArg some (u32Vals_len iv_len).symm)) ((u32Vals_len (show List.length (List.replicate 8 0) = _ from List.length_replicate)).trans (u32Vals_len iv_len).symm) (u32Vals_one _) ?_)
  intro w21 b22 hg23; have z24 := hg23.size
  refine wpList_nil ?_
  refine hK10 _ _ ?_
  clear hK10
  refine wp_seq_k (fun K25 hK25 => ?_)
  refine wp_region_lit ?_
  refine wpl_op (i := 0) rfl (o_val (v := (.pointer (some ⟨g13, 0 + 0, none⟩))) hF20 rfl rfl rfl rfl (rn_indexArr Tryd.underlying48 (by kernel_rfl : (Tryd.prog.info? 47).map (·.size) = some 1) (hF20.get rfl) rfl (by omega : (0 : Int) ≤ 0) (by omega : (0 : Int) < ((8 : Nat) : Int))) ?_)
  intro a26 hF27; clear hF20
  refine wpl_op (i := 1) rfl (o_val (v := (.int .u32 ((iv.getD 0 0).toNat : Nat))) hF27 rfl rfl rfl rfl (rn_load (isAgg_no Tryd.underlying47 rfl) (hF27.get rfl) (blk_word b22 (by omega) (by have := (show List.length iv = _ from iv_len); omega))) ?_)
  intro a28 hF29; clear hF27
  refine wpl_op (i := 2) rfl (o_val (v := (.int .u32 (((iv.getD 0 0) ^^^ (16842784 : UInt32)).toNat : Nat))) hF29 rfl rfl rfl rfl (rn_xor32 (a := (iv.getD 0 0)) (b := (16842784 : UInt32)) (hF29.get rfl) rfl) ?_)
  intro a30 hF31; clear hF29
  refine wpl_op (i := 3) rfl (o_val (v := (.pointer (some ⟨g13, 0 + 0, none⟩))) hF31 rfl rfl rfl rfl (rn_indexArr Tryd.underlying48 (by kernel_rfl : (Tryd.prog.info? 47).map (·.size) = some 1) (hF31.get rfl) rfl (by omega : (0 : Int) ≤ 0) (by omega : (0 : Int) < ((8 : Nat) : Int))) ?_)
  intro a32 hF33; clear hF31
  refine wpl_op (i := 4) rfl (o_store1 (new := (u32Vals (iv.set 0 ((iv.getD 0 0) ^^^ (16842784 : UInt32))))) hF33 rfl rfl rfl rfl (hF33.get rfl) (hF33.get rfl) b22 (by kernel_rfl : (Tryd.prog.info? 47).map (·.size) = some 1) (by rw [u32Vals_len iv_len]; omega) rfl (u32Vals_set (by omega)) ?_)
  intro w34 b35 hg36; have z37 := hg36.size
  refine wpList_nil ?_
  refine hK25 _ _ ?_
  clear hK25
  have hF38 := (((hF33.nil.cons (hF33.get (t := 3) (v := (.pointer (some ⟨g13, 0, none⟩))) rfl)).cons (hF33.get (t := 2) (v := (.pointer (some ⟨g2, 0, none⟩))) rfl)).cons (hF33.get (t := 0) (v := (.slice A b.length c)) rfl))
  clear hF33
  refine wp_seq_k (fun K39 hK39 => ?_)
  refine wp_region_lit ?_
  refine wpl_op (i := 0) rfl (o_val (v := (.int .u64 0)) hF38 rfl rfl rfl rfl (rn_assign rfl) ?_)
  intro a40 hF41; clear hF38
  refine wpList_nil ?_
  refine hK39 _ _ ?_
  clear hK39
  refine wp_seq_k (fun K42 hK42 => ?_)
  refine wp_block ?_
  have d43 := (hc.pres (((((Pres.refl w).ext hx5).ext hx16).grownN hg23 (fun h => by simp only [Clip] at h; omega)).grownN hg36 (fun h => by simp only [Clip] at h; omega)))
  have b44 : Blk w34 g2 26 (byteVals (List.replicate 32 0)) := (((b4.ext hx16).grownN hg23 (by omega)).grownN hg36 (by omega))
  refine wp_loop (fun a' W => ∃ (A1 : Option Addr) (c1 : Nat) (m1 : Nat) (b1 : List UInt8) (n1 : Nat) (hh : List UInt32), Sl 45 [(0, (.slice A1 m1 c1)), (2, (.pointer (some ⟨g2, 0, none⟩))), (3, (.pointer (some ⟨g13, 0, none⟩))), (4, (.int .u64 ((UInt64.ofNat n1).toNat : Nat)))] a' ∧ hh.length = 8 ∧ b1.length = m1 ∧ feed hh n1 b1 = feed first 0 b ∧ Ext w W ∧ Blk W g2 26 (byteVals (List.replicate 32 0)) ∧ Blk W g13 48 (u32Vals hh) ∧ Fl (Clip S w) W 1 (.slice A1 m1 c1) m1 (byteVals b1) ∧ w34.heap.size ≤ W.heap.size) (fun a' _ => (sliceLen (a'.eval (.tmp 0)))) ⟨A, c, b.length, b, 0, iv.set 0 ((iv.getD 0 0) ^^^ (16842784 : UInt32)), ((((hF41.nil.cons (q_get hF41 (t := 4) rfl (by first | rfl | (congr 1; omega) | (simp only [UInt64.ofNat_add]; rfl)))).cons (q_get hF41 (t := 3) rfl rfl)).cons (q_get hF41 (t := 2) rfl rfl)).cons (q_get hF41 (t := 0) rfl (by first | rfl | (congr 1; omega) | (simp only [UInt64.ofNat_add]; rfl)))), rfl, rfl, rfl, (((((Ext.refl w).trans hx5).trans hx16).grownN hg23 (by omega)).grownN hg36 (by omega)), b44, b35, d43, (Nat.le_refl _)⟩ ?_
  clear hF41
  rintro a45 w46 ⟨A1, c1, m1, b1, n1, hh, hF47, hp49, hp50, hp51, hx48, b52, b53, hf54, hf55⟩
  have hL56 := hF47
  have z57 := hx48.size
  have z58 := b52.lt
  have z59 := b53.lt
  have hhl : hh.length = 8 := hp49
  have hcc1 := (Fl.cel hf54).2.1
  refine wp_seq_k (fun K60 hK60 => ?_)
  refine wp_seq_k (fun K61 hK61 => ?_)
  refine wp_region_lit ?_
  refine wpl_op (i := 0) rfl (o_val (v := (.slice A1 m1 c1)) hF47 rfl rfl rfl rfl (rn_move (hF47.get rfl)) ?_)
  intro a62 hF63; clear hF47
  refine wpl_op (i := 1) rfl (o_val (v := (.int .i64 (m1 : Nat))) hF63 rfl rfl rfl rfl (rn_len_slice Tryd.underlying22 (hF63.get rfl)) ?_)
  intro a64 hF65; clear hF63
  refine wpl_op (i := 2) rfl (o_val (v := (.bool (decide ((64 : Int) < ((m1 : Nat) : Int))))) hF65 rfl rfl rfl rfl (rn_gtr (hF65.get rfl) rfl) ?_)
  intro a66 hF67; clear hF65
  refine wpList_nil ?_
  refine hK61 _ _ ?_
  clear hK61
  by_cases hc68 : (64 : Int) < ((m1 : Nat) : Int)
  · skip
    refine wp_cond_true (c_true hF67 rfl (decide_eq_true hc68)) ?_
    refine wp_skip ?_
    refine hK60 _ _ ?_
    clear hK60
    refine wp_block ?_
    refine wp_seq_k (fun K69 hK69 => ?_)
    refine wp_region_lit ?_
    refine wpl_op (i := 0) rfl (o_val (v := (.int .u64 ((UInt64.ofNat n1).toNat : Nat))) hF67 rfl rfl rfl rfl (rn_move (hF67.get rfl)) ?_)
    intro a70 hF71; clear hF67
    refine wpl_op (i := 1) rfl (o_val (v := (.int .u64 (((UInt64.ofNat n1) + (64 : UInt64)).toNat : Nat))) hF71 rfl rfl rfl rfl (rn_add64 (a := (UInt64.ofNat n1)) (b := (64 : UInt64)) (hF71.get rfl) rfl) ?_)
    intro a72 hF73; clear hF71
    refine wpl_op (i := 2) rfl (o_val (v := (.int .u64 (((UInt64.ofNat n1) + (64 : UInt64)).toNat : Nat))) hF73 rfl rfl rfl rfl (rn_assign (hF73.get rfl)) ?_)
    intro a74 hF75; clear hF73
    refine wpList_nil ?_
    refine hK69 _ _ ?_
    clear hK69
    have hF76 := (((((hF75.nil.cons (hF75.get (t := 13) (v := (.bool (decide ((64 : Int) < ((m1 : Nat) : Int))))) rfl)).cons (hF75.get (t := 4) (v := (.int .u64 (((UInt64.ofNat n1) + (64 : UInt64)).toNat : Nat))) rfl)).cons (hF75.get (t := 3) (v := (.pointer (some ⟨g13, 0, none⟩))) rfl)).cons (hF75.get (t := 2) (v := (.pointer (some ⟨g2, 0, none⟩))) rfl)).cons (hF75.get (t := 0) (v := (.slice A1 m1 c1)) rfl))
    clear hF75
    refine wp_seq_k (fun K77 hK77 => ?_)
    refine wp_region_lit ?_
    refine wpl_op (i := 0) rfl (o_val (v := (.slice A1 m1 c1)) hF76 rfl rfl rfl rfl (rn_move (hF76.get rfl)) ?_)
    intro a78 hF79; clear hF76
    refine wpl_op (i := 1) rfl (o_val (v := (.slice A1 64 c1)) hF79 rfl rfl rfl rfl (rn_sliceHi Tryd.underlying22 (by kernel_rfl : (Tryd.prog.info? 5).map (·.size) = some 1) (hF79.get rfl) rfl (by omega : (0 : Int) ≤ 64) (by omega : (64 : Int) ≤ ((c1 : Nat) : Int))) ?_)
    intro a80 hF81; clear hF79
    refine wpl_op (i := 2) rfl (o_val (v := (.int .u64 (((UInt64.ofNat n1) + (64 : UInt64)).toNat : Nat))) hF81 rfl rfl rfl rfl (rn_move (hF81.get rfl)) ?_)
    intro a82 hF83; clear hF81
    refine wpl_op (i := 3) rfl (o_call hF83 rfl rfl rfl rfl (rn_call (args4 (hF83.get rfl) (hF83.get rfl) (hF83.get rfl) rfl) rfl (by kernel_rfl)) (absorb_at g13 hh (b1.take 64) ((UInt64.ofNat n1) + (64 : UInt64)) false _ b53 hhl (Fl.take_eq (j := 64) hf54 (by omega) (byteVals_take1 _ _)) (by omega) (hG.ext ((Ext.refl w).trans hx48))) ?_)
    rintro _ w84 ⟨rfl, b85, hg86⟩
    refine ⟨_, rfl, ?_⟩; intro a87 hF88; clear hF83; have z89 := hg86.size
    refine wpList_nil ?_
    refine hK77 _ _ ?_
    clear hK77
    have hF90 := (((((hF88.nil.cons (hF88.get (t := 13) (v := (.bool (decide ((64 : Int) < ((m1 : Nat) : Int))))) rfl)).cons (hF88.get (t := 4) (v := (.int .u64 (((UInt64.ofNat n1) + (64 : UInt64)).toNat : Nat))) rfl)).cons (hF88.get (t := 3) (v := (.pointer (some ⟨g13, 0, none⟩))) rfl)).cons (hF88.get (t := 2) (v := (.pointer (some ⟨g2, 0, none⟩))) rfl)).cons (hF88.get (t := 0) (v := (.slice A1 m1 c1)) rfl))
    clear hF88
    refine wp_region_lit ?_
    refine wpl_op (i := 0) rfl (o_val (v := (.slice A1 m1 c1)) hF90 rfl rfl rfl rfl (rn_move (hF90.get rfl)) ?_)
    intro a91 hF92; clear hF90
    have d96 := (hf54.pres ((Pres.refl w46).grownN hg86 (fun h => by simp only [Clip] at h; omega)))
    obtain ⟨b93, o94, hA95, -⟩ := Fl.at d96 (by omega)
    refine wpl_op (i := 1) rfl (o_val (v := (.slice (some ⟨b93, o94 + 64 * 1, none⟩) (m1 - 64) (c1 - 64))) hF92 rfl rfl rfl rfl (rn_sliceLo (l := 64) Tryd.underlying22 (by kernel_rfl : (Tryd.prog.info? 5).map (·.size) = some 1) ((hF92.get rfl).trans (by rw [hA95])) rfl (by omega : 64 ≤ m1) (by omega : 64 < c1)) ?_)
    intro a97 hF98; clear hF92
    refine wpl_op (i := 2) rfl (o_val (v := (.slice (some ⟨b93, o94 + 64 * 1, none⟩) (m1 - 64) (c1 - 64))) hF98 rfl rfl rfl rfl (rn_assign (hF98.get rfl)) ?_)
    intro a99 hF100; clear hF98
    refine wpList_nil ?_
    have b101 : Blk w84 g2 26 (byteVals (List.replicate 32 0)) := (b52.grownN hg86 (by omega))
    refine ⟨⟨(some ⟨b93, o94 + 64 * 1, none⟩), c1 - 64, m1 - 64, b1.drop 64, (n1 + 64), absorb hh (b1.take 64) ((UInt64.ofNat n1) + (64 : UInt64)) false, ((((hF100.nil.cons (q_get hF100 (t := 4) rfl (by first | rfl | (congr 1; omega) | (simp only [UInt64.ofNat_add]; rfl)))).cons (q_get hF100 (t := 3) rfl rfl)).cons (q_get hF100 (t := 2) rfl rfl)).cons (q_get hF100 (t := 0) rfl (by first | rfl | (congr 1; omega) | (simp only [UInt64.ofNat_add]; rfl)))), (absorb_len hhl), (by rw [List.length_drop]; omega), (feed_step (by omega) hp51), (((Ext.refl w).trans hx48).grownN hg86 (by omega)), b101, b85, (Fl.drop_eq (j := 64) d96 hA95 (by omega) (byteVals_drop1 _ _)), (by omega)⟩, ?_⟩
    rw [hF100.get (t := 0) rfl, hL56.get (t := 0) rfl]; simp only [sliceLen]; omega
  · skip
    refine wp_cond_false (c_false hF67 rfl (decide_eq_false hc68)) ?_
    refine wp_exit ?_
    refine exit_then ?_
    refine exit_then ?_
    refine exit_here ?_
    refine hK42 _ _ ?_
    clear hK42
    refine wp_seq_k (fun K102 hK102 => ?_)
    refine wp_region_lit ?_
    refine wpl_op (i := 0) rfl (o_val (v := (.slice A1 m1 c1)) hF67 rfl rfl rfl rfl (rn_move (hF67.get rfl)) ?_)
    intro a103 hF104; clear hF67
    refine wpl_op (i := 1) rfl (o_val (v := (.int .u64 ((UInt64.ofNat n1).toNat : Nat))) hF104 rfl rfl rfl rfl (rn_move (hF104.get rfl)) ?_)
    intro a105 hF106; clear hF104
    refine wpl_op (i := 2) rfl (o_val (v := (.slice A1 m1 c1)) hF106 rfl rfl rfl rfl (rn_move (hF106.get rfl)) ?_)
    intro a107 hF108; clear hF106
    refine wpl_op (i := 3) rfl (o_val (v := (.int .i64 (m1 : Nat))) hF108 rfl rfl rfl rfl (rn_len_slice Tryd.underlying22 (hF108.get rfl)) ?_)
    intro a109 hF110; clear hF108
    refine wpl_op (i := 4) rfl (o_val (v := (.int .u64 ((UInt64.ofNat m1).toNat : Nat))) hF110 rfl rfl rfl rfl (rn_convW Tryd.underlying3 Tryd.underlying49 (hF110.get rfl) (cvi_64 m1 (by omega))) ?_)
    intro a111 hF112; clear hF110
    refine wpl_op (i := 5) rfl (o_val (v := (.int .u64 (((UInt64.ofNat n1) + (UInt64.ofNat m1)).toNat : Nat))) hF112 rfl rfl rfl rfl (rn_add64 (a := (UInt64.ofNat n1)) (b := (UInt64.ofNat m1)) (hF112.get rfl) (hF112.get rfl)) ?_)
    intro a113 hF114; clear hF112
    refine wpl_op (i := 6) rfl (o_call hF114 rfl rfl rfl rfl (rn_call (args4 (hF114.get rfl) (hF114.get rfl) (hF114.get rfl) rfl) rfl (by kernel_rfl)) (absorb_at g13 hh b1 ((UInt64.ofNat n1) + (UInt64.ofNat m1)) true _ b53 hhl hf54 (by omega) (hG.ext ((Ext.refl w).trans hx48))) ?_)
    rintro _ w115 ⟨rfl, b116, hg117⟩
    refine ⟨_, rfl, ?_⟩; intro a118 hF119; clear hF114; have z120 := hg117.size
    refine wpList_nil ?_
    refine hK102 _ _ ?_
    clear hK102
    have hF121 := (((((hF119.nil.cons (hF119.get (t := 13) (v := (.bool (decide ((64 : Int) < ((m1 : Nat) : Int))))) rfl)).cons (hF119.get (t := 4) (v := (.int .u64 ((UInt64.ofNat n1).toNat : Nat))) rfl)).cons (hF119.get (t := 3) (v := (.pointer (some ⟨g13, 0, none⟩))) rfl)).cons (hF119.get (t := 2) (v := (.pointer (some ⟨g2, 0, none⟩))) rfl)).cons (hF119.get (t := 0) (v := (.slice A1 m1 c1)) rfl))
    clear hF119
    refine wp_seq_k (fun K122 hK122 => ?_)
    refine wp_seq_k (fun K123 hK123 => ?_)
    refine wp_region_lit ?_
    refine wpl_op (i := 0) rfl (o_val (v := (.int .i64 0)) hF121 rfl rfl rfl rfl (rn_move rfl) ?_)
    intro a124 hF125; clear hF121
    refine wpList_nil ?_
    refine hK123 _ _ ?_
    clear hK123
    refine wp_block ?_
    obtain ⟨v126, e127⟩ : ∃ z, z = absorb hh b1 ((UInt64.ofNat n1) + (UInt64.ofNat m1)) true := ⟨_, rfl⟩
    have hl128 : v126.length = 8 := (congrArg List.length e127).trans (absorb_len hhl)
    rw [← e127] at b116
    have d129 := (hf54.pres ((Pres.refl w46).grownN hg117 (fun h => by simp only [Clip] at h; omega)))
    have b130 : Blk w115 g2 26 (byteVals (List.replicate 32 0)) := (b52.grownN hg117 (by omega))
    refine wp_loop (fun a' W => ∃ (k2 : Nat) (dd : List UInt8), Sl 45 [(0, (.slice A1 m1 c1)), (2, (.pointer (some ⟨g2, 0, none⟩))), (3, (.pointer (some ⟨g13, 0, none⟩))), (4, (.int .u64 ((UInt64.ofNat n1).toNat : Nat))), (13, (.bool (decide ((64 : Int) < ((m1 : Nat) : Int))))), (29, (.int .i64 (k2 : Nat)))] a' ∧ k2 ≤ 32 ∧ dd = outTo v126 k2 ∧ Ext w W ∧ Blk W g2 26 (byteVals dd) ∧ Blk W g13 48 (u32Vals v126) ∧ Fl (Clip S w) W 1 (.slice A1 m1 c1) m1 (byteVals b1) ∧ w115.heap.size ≤ W.heap.size) (fun a' _ => 32 - (intOf (a'.eval (.tmp 29))).toNat) ⟨0, (List.replicate 32 0), ((((((hF125.nil.cons (q_get hF125 (t := 29) rfl (by first | rfl | (congr 1; omega) | (simp only [UInt64.ofNat_add]; rfl)))).cons (q_get hF125 (t := 13) rfl rfl)).cons (q_get hF125 (t := 4) rfl rfl)).cons (q_get hF125 (t := 3) rfl rfl)).cons (q_get hF125 (t := 2) rfl rfl)).cons (q_get hF125 (t := 0) rfl rfl)), (by omega), rfl, (((Ext.refl w).trans hx48).grownN hg117 (by omega)), b130, b116, d129, (Nat.le_refl _)⟩ ?_
    clear hF125
    rintro a131 w132 ⟨k2, dd, hF133, hp135, hp136, hx134, b137, b138, hf139, hf140⟩
    have hL141 := hF133
    have z142 := hx134.size
    have z143 := b137.lt
    have z144 := b138.lt
    have hdl : dd.length = 32 := by rw [hp136]; exact outTo_len (by omega)
    refine wp_seq_k (fun K145 hK145 => ?_)
    refine wp_region_lit ?_
    refine wpl_op (i := 0) rfl (o_val (v := (.bool (decide (((k2 : Nat) : Int) < (32 : Int))))) hF133 rfl rfl rfl rfl (rn_lss (hF133.get rfl) rfl) ?_)
    intro a146 hF147; clear hF133
    refine wpList_nil ?_
    refine hK145 _ _ ?_
    clear hK145
    refine wp_seq_k (fun K148 hK148 => ?_)
    by_cases hc149 : ((k2 : Nat) : Int) < (32 : Int)
    · skip
      refine wp_cond_true (c_true hF147 rfl (decide_eq_true hc149)) ?_
      refine wp_skip ?_
      refine hK148 _ _ ?_
      clear hK148
      refine wp_seq_k (fun K150 hK150 => ?_)
      refine wp_block ?_
      refine wp_seq_k (fun K151 hK151 => ?_)
      refine wp_region_lit ?_
      refine wpl_op (i := 0) rfl (o_val (v := (.int .i64 (k2 : Nat))) hF147 rfl rfl rfl rfl (rn_move (hF147.get rfl)) ?_)
      intro a152 hF153; clear hF147
      refine wpl_op (i := 1) rfl (o_val (v := (.int .i64 (k2 : Nat))) hF153 rfl rfl rfl rfl (rn_assign (hF153.get rfl)) ?_)
      intro a154 hF155; clear hF153
      refine wpList_nil ?_
      refine hK151 _ _ ?_
      clear hK151
      refine wp_region_lit ?_
      refine wpl_op (i := 0) rfl (o_val (v := (.int .i64 (k2 : Nat))) hF155 rfl rfl rfl rfl (rn_move (hF155.get rfl)) ?_)
      intro a156 hF157; clear hF155
      refine wpl_op (i := 1) rfl (o_val (v := (.int .i64 (k2 : Nat))) hF157 rfl rfl rfl rfl (rn_move (hF157.get rfl)) ?_)
      intro a158 hF159; clear hF157
      refine wpl_op (i := 2) rfl (o_val (v := (.int .i64 (k2 / 4 : Nat))) hF159 rfl rfl rfl rfl (rn_quoN (a := k2) (b := 4) (hF159.get rfl) rfl (by omega) (by omega)) ?_)
      intro a160 hF161; clear hF159
      refine wpl_op (i := 3) rfl (o_val (v := (.pointer (some ⟨g13, 0 + (k2 / 4), none⟩))) hF161 rfl rfl rfl rfl (rn_indexArr Tryd.underlying48 (by kernel_rfl : (Tryd.prog.info? 47).map (·.size) = some 1) (hF161.get rfl) (hF161.get rfl) (by omega : (0 : Int) ≤ (k2 / 4 : Nat)) (by omega : ((k2 / 4 : Nat) : Int) < ((8 : Nat) : Int))) ?_)
      intro a162 hF163; clear hF161
      refine wpl_op (i := 4) rfl (o_val (v := (.int .u32 ((v126.getD (k2 / 4) 0).toNat : Nat))) hF163 rfl rfl rfl rfl (rn_load (isAgg_no Tryd.underlying47 rfl) (hF163.get rfl) (blk_word b138 (by omega) (by have := (show List.length v126 = _ from hl128); omega))) ?_)
      intro a164 hF165; clear hF163
      refine wpl_op (i := 5) rfl (o_val (v := (.int .i64 (k2 : Nat))) hF165 rfl rfl rfl rfl (rn_move (hF165.get rfl)) ?_)
      intro a166 hF167; clear hF165
      refine wpl_op (i := 6) rfl (o_val (v := (.int .i64 (k2 % 4 : Nat))) hF167 rfl rfl rfl rfl (rn_remN (a := k2) (b := 4) (hF167.get rfl) rfl (by omega)) ?_)
      intro a168 hF169; clear hF167
      refine wpl_op (i := 7) rfl (o_val (v := (.int .i64 (8 * (k2 % 4) : Nat))) hF169 rfl rfl rfl rfl (rn_mulN (a := 8) (b := k2 % 4) rfl (hF169.get rfl) (by omega)) ?_)
      intro a170 hF171; clear hF169
      refine wpl_op (i := 8) rfl (o_val (v := (.int .u32 (((v126.getD (k2 / 4) 0) >>> UInt32.ofNat (8 * (k2 % 4))).toNat : Nat))) hF171 rfl rfl rfl rfl (rn_shr32 (a := (v126.getD (k2 / 4) 0)) (n := (8 * (k2 % 4))) (hF171.get rfl) (hF171.get rfl) (by omega)) ?_)
      intro a172 hF173; clear hF171
      refine wpl_op (i := 9) rfl (o_val (v := (.int .u8 ((((v126.getD (k2 / 4) 0) >>> UInt32.ofNat (8 * (k2 % 4))).toUInt8).toNat : Nat))) hF173 rfl rfl rfl rfl (rn_convW Tryd.underlying47 Tryd.underlying5 (hF173.get rfl) (cv32_8 ((v126.getD (k2 / 4) 0) >>> UInt32.ofNat (8 * (k2 % 4))))) ?_)
      intro a174 hF175; clear hF173
      refine wpl_op (i := 10) rfl (o_val (v := (.pointer (some ⟨g2, 0 + k2, none⟩))) hF175 rfl rfl rfl rfl (rn_indexArr Tryd.underlying26 (by kernel_rfl : (Tryd.prog.info? 5).map (·.size) = some 1) (hF175.get rfl) (hF175.get rfl) (by omega : (0 : Int) ≤ (k2 : Nat)) (by omega : ((k2 : Nat) : Int) < ((32 : Nat) : Int))) ?_)
      intro a176 hF177; clear hF175
      refine wpl_op (i := 11) rfl (o_store1 (new := (byteVals (dd.set k2 (((v126.getD (k2 / 4) 0) >>> UInt32.ofNat (8 * (k2 % 4))).toUInt8)))) hF177 rfl rfl rfl rfl (hF177.get rfl) (hF177.get rfl) b137 (by kernel_rfl : (Tryd.prog.info? 5).map (·.size) = some 1) (by rw [byteVals_len hdl]; omega) rfl (byteVals_set (by omega)) ?_)
      intro w178 b179 hg180; have z181 := hg180.size
      refine wpList_nil ?_
      refine hK150 _ _ ?_
      clear hK150
      have hF182 := ((((((((hF177.nil.cons (hF177.get (t := 5) (v := (.int .i64 (k2 : Nat))) rfl)).cons (hF177.get (t := 30) (v := (.bool (decide (((k2 : Nat) : Int) < (32 : Int))))) rfl)).cons (hF177.get (t := 29) (v := (.int .i64 (k2 : Nat))) rfl)).cons (hF177.get (t := 13) (v := (.bool (decide ((64 : Int) < ((m1 : Nat) : Int))))) rfl)).cons (hF177.get (t := 4) (v := (.int .u64 ((UInt64.ofNat n1).toNat : Nat))) rfl)).cons (hF177.get (t := 3) (v := (.pointer (some ⟨g13, 0, none⟩))) rfl)).cons (hF177.get (t := 2) (v := (.pointer (some ⟨g2, 0, none⟩))) rfl)).cons (hF177.get (t := 0) (v := (.slice A1 m1 c1)) rfl))
      clear hF177
      refine wp_region_lit ?_
      refine wpl_op (i := 0) rfl (o_val (v := (.int .i64 (k2 + 1 : Nat))) hF182 rfl rfl rfl rfl (rn_addN (a := k2) (b := 1) (hF182.get rfl) rfl (by omega)) ?_)
      intro a183 hF184; clear hF182
      refine wpl_op (i := 1) rfl (o_val (v := (.int .i64 (k2 + 1 : Nat))) hF184 rfl rfl rfl rfl (rn_move (hF184.get rfl)) ?_)
      intro a185 hF186; clear hF184
      refine wpList_nil ?_
      obtain ⟨v187, e188⟩ : ∃ z, z = dd.set k2 (((v126.getD (k2 / 4) 0) >>> UInt32.ofNat (8 * (k2 % 4))).toUInt8) := ⟨_, rfl⟩
      have hl189 : v187.length = 32 := (congrArg List.length e188).trans (show List.length (dd.set k2 (((v126.getD (k2 / 4) 0) >>> UInt32.ofNat (8 * (k2 % 4))).toUInt8)) = _ from List.length_set.trans hdl)
      rw [← e188] at b179
      have d190 := (hf139.pres ((Pres.refl w132).grownN hg180 (fun h => by simp only [Clip] at h; omega)))
      have b191 : Blk w178 g13 48 (u32Vals v126) := (b138.grownN hg180 (by omega))
      refine ⟨⟨(k2 + 1), v187, ((((((hF186.nil.cons (q_get hF186 (t := 29) rfl (by first | rfl | (congr 1; omega) | (simp only [UInt64.ofNat_add]; rfl)))).cons (q_get hF186 (t := 13) rfl rfl)).cons (q_get hF186 (t := 4) rfl rfl)).cons (q_get hF186 (t := 3) rfl rfl)).cons (q_get hF186 (t := 2) rfl rfl)).cons (q_get hF186 (t := 0) rfl rfl)), (by omega), (outTo_step (by omega) hp136 e188), (((Ext.refl w).trans hx134).grownN hg180 (by omega)), b179, b191, d190, (by omega)⟩, ?_⟩
      rw [hF186.get (t := 29) rfl, hL141.get (t := 29) rfl]; simp [intOf] <;> omega
    · skip
      refine wp_cond_false (c_false hF147 rfl (decide_eq_false hc149)) ?_
      refine wp_exit ?_
      refine exit_then ?_
      refine exit_then ?_
      refine exit_here ?_
      refine hK122 _ _ ?_
      clear hK122
      refine wp_seq_k (fun K192 hK192 => ?_)
      refine wp_region_lit ?_
      refine wpl_op (i := 0) rfl (o_val (v := (.agg (byteVals dd).toArray)) hF147 rfl rfl rfl rfl (rn_loadBlk (hF147.get rfl) b137 Tryd.underlying26 rfl ((by kernel_rfl : (Tryd.prog.info? 26).map (·.size) = some 32).trans (congrArg some (byteVals_len hdl).symm))) ?_)
      intro a193 hF194; clear hF147
      refine wpl_op (i := 1) rfl (o_store (cells := (byteVals dd)) hF194 rfl rfl rfl rfl (hF194.get rfl) (hF194.get rfl) b137 ((by kernel_rfl : (Tryd.prog.info? 26).map (·.size) = some 32).trans (congrArg some (byteVals_len hdl).symm)) ((byteVals_len hdl).trans (byteVals_len hdl).symm) (byteVals_one _) ?_)
      intro w195 b196 hg197; have z198 := hg197.size
      refine wpList_nil ?_
      refine hK192 _ _ ?_
      clear hK192
      refine wp_ret ?_
      refine retC hF194 rfl rfl b196 Tryd.underlying26 rfl ((by kernel_rfl : (Tryd.prog.info? 26).map (·.size) = some 32).trans (congrArg some (byteVals_len hdl).symm)) ?_
      have hd : dd = bsum b := by rw [hp136, show k2 = 32 by omega, outTo_all, e127, feed_last hp50 (by omega) hp51]
      exact ⟨by rw [← hd], (((Ext.refl w).trans hx134).grownN hg197 (by omega))⟩

theorem sum_at {v : Value} {n : Nat} (b : List UInt8) (w : World) (hf : Fl S w 1 v n (byteVals b)) (hG : Glob w) : Calls Tryd.prog 11 #[v] w (fun e w' => e = .returned (.agg (byteVals (bsum b)).toArray) ∧ Ext w w') := by
  have hm : n = b.length := by have := hf.len; simp [byteVals] at this; omega
  subst hm
  obtain ⟨A, c, rfl, _⟩ := hf.form
  exact sum_any A c b w hf hG

end Go.Proofs.YtgodliookpgliaaDoor
