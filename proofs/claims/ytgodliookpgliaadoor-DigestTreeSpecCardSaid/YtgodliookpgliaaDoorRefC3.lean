/- Contract of the reference's Sum. -/
import Derived.Test.YtgodliookpgliaaDoorProg
import Derived.Test.YtgodliookpgliaaDoorRefB3
import Derived.KernelRfl
namespace Go.Proofs.YtgodliookpgliaaDoor
open Go.RowKit

variable {S S' : Nat → Prop}

theorem set_or0 (m : List UInt32) (k : Nat) : m.set k (m.getD k 0 ||| 0) = m := by
  rw [UInt32.or_zero]
  apply List.ext_getElem (by simp)
  intro i h1 h2
  rw [List.getElem_set]
  split
  · rename_i h; subst h; rw [List.getD_eq_getElem?_getD, List.getElem?_eq_getElem h2, Option.getD_some]
  · rfl
theorem wordsTo_pad (b : List UInt8) (z : Nat) : ∀ k, wordsTo (b ++ List.replicate z 0) k = wordsTo b k
  | 0 => rfl
  | k + 1 => by
    rw [show wordsTo (b ++ List.replicate z 0) (k + 1) = word (b ++ List.replicate z 0) (wordsTo (b ++ List.replicate z 0) k) k from foldl_range _ _ _, show wordsTo b (k + 1) = word b (wordsTo b k) k from foldl_range _ _ _, wordsTo_pad b z k]
    unfold word
    congr 3
    rw [List.getD_eq_getElem?_getD, List.getD_eq_getElem?_getD, List.getElem?_append]
    split
    · rfl
    · rename_i h
      rw [List.getElem?_eq_none (by omega : b.length ≤ k), List.getElem?_replicate]
      split <;> rfl
theorem wordsTo_more (b : List UInt8) (n : Nat) (h : b.length ≤ n) : ∀ j, wordsTo b (n + j) = wordsTo b n
  | 0 => rfl
  | j + 1 => by
    rw [← Nat.add_assoc, show wordsTo b (n + j + 1) = word b (wordsTo b (n + j)) (n + j) from foldl_range _ _ _, wordsTo_more b n h j]
    unfold word
    rw [List.getD_eq_getElem?_getD, List.getElem?_eq_none (by omega : b.length ≤ n + j), Option.getD_none]
    have : (UInt8.toUInt32 0 <<< UInt32.ofNat (8 * ((n + j) % 4))) = 0 := by
      rw [show UInt8.toUInt32 0 = 0 from rfl]; exact UInt32.zero_shiftLeft
    rw [this]
    exact set_or0 _ _
theorem words_pad (b : List UInt8) (z : Nat) : words (b ++ List.replicate z 0) = words b := by
  show wordsTo (b ++ List.replicate z 0) (b ++ List.replicate z 0).length = wordsTo b b.length
  rw [wordsTo_pad, List.length_append, wordsTo_more b _ (Nat.le_refl _)]
theorem absorb_pad (h : List UInt32) (b : List UInt8) (z : Nat) (n : UInt64) (last : Bool) : absorb h (b ++ List.replicate z 0) n last = absorb h b n last := by
  unfold absorb; rw [words_pad]
/-- one block of the filled bytes, not the last -/
theorem sum_step {f b : List UInt8} {z n : Nat} {h h0 : List UInt32} (hf : f = b ++ List.replicate z 0) (hn : n + 64 < f.length) (hT : f.length ≤ 64 ∨ f.length ≤ (b.length + 63) / 64 * 64) (h64 : f.length % 64 = 0) (hn64 : n % 64 = 0) (e : feed h n (b.drop n) = feed h0 0 b) :
    feed (absorb h ((f.drop n).take 64) (UInt64.ofNat (n + 64)) false) (n + 64) (b.drop (n + 64)) = feed h0 0 b := by
  have hb : n + 64 < b.length := by omega
  have h1 : (f.drop n).take 64 = (b.drop n).take 64 := by
    rw [hf, List.drop_append_of_le_length (by omega), List.take_append_of_le_length (by rw [List.length_drop]; omega)]
  rw [h1, ← e, show feed h n (b.drop n) = feed (absorb h ((b.drop n).take 64) (UInt64.ofNat (n + 64)) false) (n + 64) ((b.drop n).drop 64) from by rw [feed, if_neg (by rw [List.length_drop]; omega)], List.drop_drop]
theorem sum_last {f b : List UInt8} {z n : Nat} {h h0 : List UInt32} (hf : f = b ++ List.replicate z 0) (hn : n + 64 = f.length) (hT : f.length ≤ 64 ∨ f.length ≤ (b.length + 63) / 64 * 64) (hn64 : n % 64 = 0) (e : feed h n (b.drop n) = feed h0 0 b) :
    absorb h ((f.drop n).take 64) (UInt64.ofNat b.length) true = feed h0 0 b := by
  have hl : f.length = b.length + z := by rw [hf]; simp
  have hb : n ≤ b.length := by omega
  have h1 : (f.drop n).take 64 = b.drop n ++ List.replicate z 0 := by
    rw [hf, List.drop_append_of_le_length hb, List.take_of_length_le (by simp; omega)]
  rw [h1, absorb_pad, ← e, feed, if_pos (by rw [List.length_drop]; omega), List.length_drop, show n + (b.length - n) = b.length by omega]
/-- what the state is behind n bytes of the filled ones -/
def SumInv (b f : List UInt8) (n : Nat) (h : List UInt32) : Prop := (n < f.length ∧ feed h n (b.drop n) = feed first 0 b) ∨ (n = f.length ∧ h = feed first 0 b)
theorem SumInv.start {b f : List UInt8} (h0 : 0 < f.length) : SumInv b f 0 first := .inl ⟨h0, rfl⟩
theorem SumInv.next {f b : List UInt8} {z n : Nat} {h : List UInt32} {N : UInt64} {L : Bool} (hf : f = b ++ List.replicate z 0) (hn : n < f.length) (hT : f.length ≤ 64 ∨ f.length ≤ (b.length + 63) / 64 * 64) (h64 : f.length % 64 = 0) (hn64 : n % 64 = 0) (e : SumInv b f n h)
    (hL : L = decide (n + 64 = f.length)) (hN : N = if n + 64 = f.length then UInt64.ofNat b.length else UInt64.ofNat (n + 64)) : SumInv b f (n + 64) (absorb h ((f.drop n).take 64) N L) := by
  rcases e with ⟨_, e⟩ | ⟨h1, _⟩
  · subst hL hN
    by_cases hl : n + 64 = f.length
    · rw [if_pos hl, decide_eq_true hl]
      exact .inr ⟨hl, sum_last hf hl hT hn64 e⟩
    · rw [if_neg hl, decide_eq_false hl]
      exact .inl ⟨by omega, sum_step hf (by omega) hT h64 hn64 e⟩
  · omega
theorem SumInv.done {b f : List UInt8} {n : Nat} {h : List UInt32} (e : SumInv b f n h) (hn : f.length ≤ n) : h = feed first 0 b := by
  rcases e with ⟨h1, _⟩ | ⟨_, h1⟩
  · omega
  · exact h1

set_option maxRecDepth 100000 in
set_option maxHeartbeats 1000000 in
theorem rsum_any (A : Option Addr) (c : Nat) (b : List UInt8) (w : World) (hf : Fl S w 1 (.slice A b.length c) b.length (byteVals b)) (hb : b.length ≤ 70368744177664) :
    Calls Tryd.prog 12 #[.slice A b.length c] w (fun e w' => e = .returned (.agg (byteVals (bsum b)).toArray) ∧ Ext w w') := by
  have hc : Fl (Clip S w) w 1 (.slice A b.length c) b.length (byteVals b) := hf.clip
  have hcc := (Fl.cel hc).2.1
  refine calls_enter (l := [(.slice A b.length c)]) Tryd.func12 rfl rfl rfl (fun aA hF => ?_)
  refine wp_seq_k (fun K1 hK1 => ?_)
  refine wp_region_lit ?_
  refine wpl_op (i := 0) rfl (o_new (fun g => (.pointer (some ⟨g, 0, none⟩))) (byteVals (List.replicate 32 0)) 26 hF rfl rfl rfl rfl (by kernel_rfl) ?_)
  intro g2 w3 a8 hF9 z6 z7 b4 hx5; clear hF
  refine wpList_nil ?_
  refine hK1 _ _ ?_
  clear hK1
  refine wp_seq_k (fun K10 hK10 => ?_)
  refine wp_region_lit ?_
  refine wpl_op (i := 0) rfl (o_call hF9 rfl rfl rfl rfl (rn_call (args0 ) rfl (by kernel_rfl)) (rinitial_any _) ?_)
  rintro _ w11 ⟨rfl, hx12⟩
  refine ⟨_, rfl, ?_⟩; intro a13 hF14; clear hF9; have z15 := hx12.size
  refine wpl_op (i := 1) rfl (o_new (fun g => (.pointer (some ⟨g, 0, none⟩))) (u32Vals (List.replicate 8 0)) 48 hF14 rfl rfl rfl rfl (by kernel_rfl) ?_)
  intro g16 w17 a22 hF23 z20 z21 b18 hx19; clear hF14
  refine wpl_op (i := 2) rfl (o_store (cells := (u32Vals iv)) hF23 rfl rfl rfl rfl (hF23.get rfl) (hF23.get rfl) b18 ((by kernel_rfl : (Tryd.prog.info? 48).map (·.size) = some 8).trans (congrArg some (u32Vals_len iv_len).symm)) ((u32Vals_len (show List.length (List.replicate 8 0) = _ from List.length_replicate)).trans (u32Vals_len iv_len).symm) (u32Vals_one _) ?_)
  intro w24 b25 hg26; have z27 := hg26.size
  refine wpList_nil ?_
  refine hK10 _ _ ?_
  clear hK10
  refine wp_seq_k (fun K28 hK28 => ?_)
  refine wp_region_lit ?_
  refine wpl_op (i := 0) rfl (o_val (v := (.pointer (some ⟨g16, 0 + 0, none⟩))) hF23 rfl rfl rfl rfl (rn_indexArr Tryd.underlying48 (by kernel_rfl : (Tryd.prog.info? 47).map (·.size) = some 1) (hF23.get rfl) rfl (by omega : (0 : Int) ≤ 0) (by omega : (0 : Int) < ((8 : Nat) : Int))) ?_)
  intro a29 hF30; clear hF23
  refine wpl_op (i := 1) rfl (o_val (v := (.int .u32 ((iv.getD 0 0).toNat : Nat))) hF30 rfl rfl rfl rfl (rn_load (isAgg_no Tryd.underlying47 rfl) (hF30.get rfl) (blk_word b25 (by omega) (by have := (show List.length iv = _ from iv_len); omega))) ?_)
  intro a31 hF32; clear hF30
  refine wpl_op (i := 2) rfl (o_val (v := (.int .u32 (((iv.getD 0 0) ^^^ (16842784 : UInt32)).toNat : Nat))) hF32 rfl rfl rfl rfl (rn_xor32 (a := (iv.getD 0 0)) (b := (16842784 : UInt32)) (hF32.get rfl) rfl) ?_)
  intro a33 hF34; clear hF32
  refine wpl_op (i := 3) rfl (o_val (v := (.pointer (some ⟨g16, 0 + 0, none⟩))) hF34 rfl rfl rfl rfl (rn_indexArr Tryd.underlying48 (by kernel_rfl : (Tryd.prog.info? 47).map (·.size) = some 1) (hF34.get rfl) rfl (by omega : (0 : Int) ≤ 0) (by omega : (0 : Int) < ((8 : Nat) : Int))) ?_)
  intro a35 hF36; clear hF34
  refine wpl_op (i := 4) rfl (o_store1 (new := (u32Vals (iv.set 0 ((iv.getD 0 0) ^^^ (16842784 : UInt32))))) hF36 rfl rfl rfl rfl (hF36.get rfl) (hF36.get rfl) b25 (by kernel_rfl : (Tryd.prog.info? 47).map (·.size) = some 1) (by rw [u32Vals_len iv_len]; omega) rfl (u32Vals_set (by omega)) ?_)
  intro w37 b38 hg39; have z40 := hg39.size
  refine wpList_nil ?_
  refine hK28 _ _ ?_
  clear hK28
  have hF41 := (((hF36.nil.cons (hF36.get (t := 3) (v := (.pointer (some ⟨g16, 0, none⟩))) rfl)).cons (hF36.get (t := 2) (v := (.pointer (some ⟨g2, 0, none⟩))) rfl)).cons (hF36.get (t := 0) (v := (.slice A b.length c)) rfl))
  clear hF36
  refine wp_seq_k (fun K42 hK42 => ?_)
  refine wp_region_lit ?_
  refine wpl_op (i := 0) rfl (o_new (fun g => (.slice (some ⟨g, 0, none⟩) 0 0)) [] 5 hF41 rfl rfl rfl rfl (rn_buildSlice (parts0 ) (by kernel_rfl)) ?_)
  intro g43 w44 a49 hF50 z47 z48 b45 hx46; clear hF41
  refine wpl_op (i := 1) rfl (o_val (v := (.slice A b.length c)) hF50 rfl rfl rfl rfl (rn_move (hF50.get rfl)) ?_)
  intro a51 hF52; clear hF50
  have d54 := (hc.pres (((((((Pres.refl w).ext hx5).ext hx12).ext hx19).grownN hg26 (fun h => by simp only [Clip] at h; omega)).grownN hg39 (fun h => by simp only [Clip] at h; omega)).ext hx46))
  have hf62 := (own_blk0 (k := 1) b45)
  refine wpl_op (i := 2) rfl (o_appA (zs := byteVals b) El22 hF52 rfl rfl rfl rfl rfl (hF52.get rfl) (hF52.get rfl) hf62 (Fl.cel d54).2.2 (by omega) (by omega) (by omega) (List.nil_append _) ?_)
  intro A55 c56 w57 a63 hF64 r58 hg59 z60 z61; clear hF52; have z65 := hg59.size
  refine wpl_op (i := 3) rfl (o_val (v := (.slice A55 (0 + b.length) c56)) hF64 rfl rfl rfl rfl (rn_assign (hF64.get rfl)) ?_)
  intro a66 hF67; clear hF64
  refine wpList_nil ?_
  refine hK42 _ _ ?_
  clear hK42
  refine wp_seq_k (fun K68 hK68 => ?_)
  refine wp_block ?_
  have b72 : Blk w57 g16 48 (u32Vals (iv.set 0 ((iv.getD 0 0) ^^^ (16842784 : UInt32)))) := (grown_blk hf62 hg59 (b38.ext hx46) (by decide))
  obtain ⟨v69, e70⟩ : ∃ z, z = iv.set 0 ((iv.getD 0 0) ^^^ (16842784 : UInt32)) := ⟨_, rfl⟩
  have hl71 : v69.length = 8 := (congrArg List.length e70).trans (show List.length (iv.set 0 ((iv.getD 0 0) ^^^ (16842784 : UInt32))) = _ from List.length_set.trans iv_len)
  rw [← e70] at b72
  have b73 : Blk w57 g2 26 (byteVals (List.replicate 32 0)) := (grown_blk hf62 hg59 (((((b4.ext hx12).ext hx19).grownN hg26 (by omega)).grownN hg39 (by omega)).ext hx46) (by decide))
  refine wp_loop (fun a' W => ∃ (Af : Option Addr) (nf : Nat) (cf : Nat) (f : List UInt8) (z : Nat), Sl 74 [(0, (.slice A b.length c)), (2, (.pointer (some ⟨g2, 0, none⟩))), (3, (.pointer (some ⟨g16, 0, none⟩))), (4, (.slice Af nf cf))] a' ∧ f = b ++ List.replicate z 0 ∧ (nf ≤ 64 ∨ nf ≤ (b.length + 63) / 64 * 64) ∧ f.length = nf ∧ Ext w W ∧ Blk W g2 26 (byteVals (List.replicate 32 0)) ∧ Blk W g16 48 (u32Vals v69) ∧ W.ownsRow g43 5 1 (.slice Af nf cf) nf (byteVals f) ∧ g43 ≤ W.heap.size ∧ w57.heap.size ≤ W.heap.size) (fun a' _ => (sliceLen (a'.eval (.tmp 4)) + 63) / 64 * 64 - sliceLen (a'.eval (.tmp 4)) + 64 * (1 - sliceLen (a'.eval (.tmp 4)))) ⟨A55, 0 + b.length, c56, b, 0, ((((hF67.nil.cons (q_get hF67 (t := 4) rfl (by first | rfl | (congr 1; omega) | (congr 1; done)))).cons (q_get hF67 (t := 3) rfl rfl)).cons (q_get hF67 (t := 2) rfl rfl)).cons (q_get hF67 (t := 0) rfl rfl)), (by simp), (by omega), (by omega), (ext_row (((((((Ext.refl w).trans hx5).trans hx12).trans hx19).grownN hg26 (by omega)).grownN hg39 (by omega)).trans hx46) hg59 hf62 (by omega)), b73, b72, r58, (by omega), (Nat.le_refl _)⟩ ?_
  clear hF67
  rintro a74 w75 ⟨Af, nf, cf, f, z, hF76, hp78, hp79, hp80, hx77, b81, b82, r83, hf84, hf85⟩
  have hL86 := hF76
  have z87 := hx77.size
  have z88 := b81.lt
  have z89 := b82.lt
  have z90 := own_form0 r83
  refine wp_seq_k (fun K91 hK91 => ?_)
  refine wp_seq_k (fun K92 hK92 => ?_)
  refine wp_region_lit ?_
  refine wpl_op (i := 0) rfl (o_val (v := (.slice Af nf cf)) hF76 rfl rfl rfl rfl (rn_move (hF76.get rfl)) ?_)
  intro a93 hF94; clear hF76
  refine wpl_op (i := 1) rfl (o_val (v := (.int .i64 (nf : Nat))) hF94 rfl rfl rfl rfl (rn_len_slice Tryd.underlying22 (hF94.get rfl)) ?_)
  intro a95 hF96; clear hF94
  refine wpl_op (i := 2) rfl (o_val (v := (.bool (decide (((nf : Nat) : Int) = (0 : Int))))) hF96 rfl rfl rfl rfl (rn_eql (hF96.get rfl) rfl) ?_)
  intro a97 hF98; clear hF96
  refine wpl_op (i := 3) rfl (o_val (v := (.bool (decide (((nf : Nat) : Int) = (0 : Int))))) hF98 rfl rfl rfl rfl (rn_move (hF98.get rfl)) ?_)
  intro a99 hF100; clear hF98
  by_cases hc101 : ((nf : Nat) : Int) = (0 : Int)
  · skip
    refine wpl_op (i := 4) rfl (o_skip hF100 rfl (unwanted_guard rfl rfl rfl hF100 rfl (decide_eq_true hc101) rfl) rfl rfl ?_)
    intro a102 hF103; clear hF100
    refine wpl_op (i := 5) rfl (o_skip hF103 rfl (unwanted_guard rfl rfl rfl hF103 rfl (decide_eq_true hc101) rfl) rfl rfl ?_)
    intro a104 hF105; clear hF103
    refine wpl_op (i := 6) rfl (o_skip hF105 rfl (unwanted_guard rfl rfl rfl hF105 rfl (decide_eq_true hc101) rfl) rfl rfl ?_)
    intro a106 hF107; clear hF105
    refine wpl_op (i := 7) rfl (o_skip hF107 rfl (unwanted_guard rfl rfl rfl hF107 rfl (decide_eq_true hc101) rfl) rfl rfl ?_)
    intro a108 hF109; clear hF107
    refine wpl_op (i := 8) rfl (o_val (v := (.bool true)) hF109 rfl rfl rfl rfl (rn_pickT (c_true hF109 rfl (decide_eq_true hc101)) rfl) ?_)
    intro a110 hF111; clear hF109
    refine wpList_nil ?_
    refine hK92 _ _ ?_
    clear hK92
    have hF112 := (((((hF111.nil.cons (hF111.get (t := 26) (v := (.bool true)) rfl)).cons (hF111.get (t := 4) (v := (.slice Af nf cf)) rfl)).cons (hF111.get (t := 3) (v := (.pointer (some ⟨g16, 0, none⟩))) rfl)).cons (hF111.get (t := 2) (v := (.pointer (some ⟨g2, 0, none⟩))) rfl)).cons (hF111.get (t := 0) (v := (.slice A b.length c)) rfl))
    clear hF111
    refine wp_cond_true (c_true hF112 rfl rfl) ?_
    refine wp_skip ?_
    refine hK91 _ _ ?_
    clear hK91
    refine wp_block ?_
    refine wp_region_lit ?_
    refine wpl_op (i := 0) rfl (o_val (v := (.slice Af nf cf)) hF112 rfl rfl rfl rfl (rn_move (hF112.get rfl)) ?_)
    intro a113 hF114; clear hF112
    refine wpl_op (i := 1) rfl (o_new (fun g => (.slice (some ⟨g, 0, none⟩) 1 1)) [(.int .u8 0)] 5 hF114 rfl rfl rfl rfl (rn_buildSlice (parts1 rfl) (by kernel_rfl)) ?_)
    intro g115 w116 a121 hF122 z119 z120 b117 hx118; clear hF114
    have r123 := (own_ext r83 hx118)
    have hf131 := r123
    refine wpl_op (i := 2) rfl (o_appA (zs := byteVals (f ++ ([(0 : UInt8)]))) El22 hF122 rfl rfl rfl rfl rfl (hF122.get rfl) (hF122.get rfl) hf131 (Fl.cel (Fl.blk (S := fun b => b = g115) (k := 1) (n := 1) (c := 1) (cs := byteVals [(0 : UInt8)]) b117 rfl (byteVals_one _) (by omega) rfl)).2.2 (by omega) (by omega) (by omega) (byteVals_app _ _) ?_)
    intro A124 c125 w126 a132 hF133 r127 hg128 z129 z130; clear hF122; have z134 := hg128.size
    refine wpl_op (i := 3) rfl (o_val (v := (.slice A124 (nf + 1) c125)) hF133 rfl rfl rfl rfl (rn_assign (hF133.get rfl)) ?_)
    intro a135 hF136; clear hF133
    refine wpList_nil ?_
    have b137 : Blk w126 g2 26 (byteVals (List.replicate 32 0)) := (grown_blk hf131 hg128 (b81.ext hx118) (by decide))
    have b138 : Blk w126 g16 48 (u32Vals v69) := (grown_blk hf131 hg128 (b82.ext hx118) (by decide))
    refine ⟨⟨A124, nf + 1, c125, f ++ ([(0 : UInt8)]), (z + 1), ((((hF136.nil.cons (q_get hF136 (t := 4) rfl (by first | rfl | (congr 1; omega) | (congr 1; done)))).cons (q_get hF136 (t := 3) rfl rfl)).cons (q_get hF136 (t := 2) rfl rfl)).cons (q_get hF136 (t := 0) rfl rfl)), (by rw [hp78, List.append_assoc, List.replicate_succ']), (by omega), (by rw [List.length_append]; show f.length + 1 = nf + 1; omega), (ext_row (((Ext.refl w).trans hx77).trans hx118) hg128 hf131 (by omega)), b137, b138, r127, (by omega), (by omega)⟩, ?_⟩
    rw [hF136.get (t := 4) rfl, hL86.get (t := 4) rfl]; simp only [sliceLen]; omega
  · skip
    refine wpl_op (i := 4) rfl (o_val (v := (.slice Af nf cf)) hF100 rfl (wanted_guard rfl rfl rfl hF100 rfl (decide_eq_false hc101) rfl) rfl rfl (rn_move (hF100.get rfl)) ?_)
    intro a139 hF140; clear hF100
    refine wpl_op (i := 5) rfl (o_val (v := (.int .i64 (nf : Nat))) hF140 rfl (wanted_guard rfl rfl rfl hF140 rfl (decide_eq_false hc101) rfl) rfl rfl (rn_len_slice Tryd.underlying22 (hF140.get rfl)) ?_)
    intro a141 hF142; clear hF140
    refine wpl_op (i := 6) rfl (o_val (v := (.int .i64 (nf % 64 : Nat))) hF142 rfl (wanted_guard rfl rfl rfl hF142 rfl (decide_eq_false hc101) rfl) rfl rfl (rn_remN (a := nf) (b := 64) (hF142.get rfl) rfl (by omega)) ?_)
    intro a143 hF144; clear hF142
    refine wpl_op (i := 7) rfl (o_val (v := (.bool (decide (((nf % 64 : Nat) : Int) ≠ (0 : Int))))) hF144 rfl (wanted_guard rfl rfl rfl hF144 rfl (decide_eq_false hc101) rfl) rfl rfl (rn_neq (hF144.get rfl) rfl) ?_)
    intro a145 hF146; clear hF144
    refine wpl_op (i := 8) rfl (o_val (v := (.bool (decide (((nf % 64 : Nat) : Int) ≠ (0 : Int))))) hF146 rfl rfl rfl rfl (rn_pickF (c_false hF146 rfl (decide_eq_false hc101)) (hF146.get rfl)) ?_)
    intro a147 hF148; clear hF146
    refine wpList_nil ?_
    refine hK92 _ _ ?_
    clear hK92
    have hF149 := (((((hF148.nil.cons (hF148.get (t := 26) (v := (.bool (decide (((nf % 64 : Nat) : Int) ≠ (0 : Int))))) rfl)).cons (hF148.get (t := 4) (v := (.slice Af nf cf)) rfl)).cons (hF148.get (t := 3) (v := (.pointer (some ⟨g16, 0, none⟩))) rfl)).cons (hF148.get (t := 2) (v := (.pointer (some ⟨g2, 0, none⟩))) rfl)).cons (hF148.get (t := 0) (v := (.slice A b.length c)) rfl))
    clear hF148
    by_cases hc150 : ((nf % 64 : Nat) : Int) ≠ (0 : Int)
    · skip
      refine wp_cond_true (c_true hF149 rfl (decide_eq_true hc150)) ?_
      refine wp_skip ?_
      refine hK91 _ _ ?_
      clear hK91
      refine wp_block ?_
      refine wp_region_lit ?_
      refine wpl_op (i := 0) rfl (o_val (v := (.slice Af nf cf)) hF149 rfl rfl rfl rfl (rn_move (hF149.get rfl)) ?_)
      intro a151 hF152; clear hF149
      refine wpl_op (i := 1) rfl (o_new (fun g => (.slice (some ⟨g, 0, none⟩) 1 1)) [(.int .u8 0)] 5 hF152 rfl rfl rfl rfl (rn_buildSlice (parts1 rfl) (by kernel_rfl)) ?_)
      intro g153 w154 a159 hF160 z157 z158 b155 hx156; clear hF152
      have r161 := (own_ext r83 hx156)
      have hf169 := r161
      refine wpl_op (i := 2) rfl (o_appA (zs := byteVals (f ++ ([(0 : UInt8)]))) El22 hF160 rfl rfl rfl rfl rfl (hF160.get rfl) (hF160.get rfl) hf169 (Fl.cel (Fl.blk (S := fun b => b = g153) (k := 1) (n := 1) (c := 1) (cs := byteVals [(0 : UInt8)]) b155 rfl (byteVals_one _) (by omega) rfl)).2.2 (by omega) (by omega) (by omega) (byteVals_app _ _) ?_)
      intro A162 c163 w164 a170 hF171 r165 hg166 z167 z168; clear hF160; have z172 := hg166.size
      refine wpl_op (i := 3) rfl (o_val (v := (.slice A162 (nf + 1) c163)) hF171 rfl rfl rfl rfl (rn_assign (hF171.get rfl)) ?_)
      intro a173 hF174; clear hF171
      refine wpList_nil ?_
      have b175 : Blk w164 g2 26 (byteVals (List.replicate 32 0)) := (grown_blk hf169 hg166 (b81.ext hx156) (by decide))
      have b176 : Blk w164 g16 48 (u32Vals v69) := (grown_blk hf169 hg166 (b82.ext hx156) (by decide))
      refine ⟨⟨A162, nf + 1, c163, f ++ ([(0 : UInt8)]), (z + 1), ((((hF174.nil.cons (q_get hF174 (t := 4) rfl (by first | rfl | (congr 1; omega) | (congr 1; done)))).cons (q_get hF174 (t := 3) rfl rfl)).cons (q_get hF174 (t := 2) rfl rfl)).cons (q_get hF174 (t := 0) rfl rfl)), (by rw [hp78, List.append_assoc, List.replicate_succ']), (by omega), (by rw [List.length_append]; show f.length + 1 = nf + 1; omega), (ext_row (((Ext.refl w).trans hx77).trans hx156) hg166 hf169 (by omega)), b175, b176, r165, (by omega), (by omega)⟩, ?_⟩
      rw [hF174.get (t := 4) rfl, hL86.get (t := 4) rfl]; simp only [sliceLen]; omega
    · skip
      refine wp_cond_false (c_false hF149 rfl (decide_eq_false hc150)) ?_
      refine wp_exit ?_
      refine exit_then ?_
      refine exit_then ?_
      refine exit_here ?_
      refine hK68 _ _ ?_
      clear hK68
      refine wp_seq_k (fun K177 hK177 => ?_)
      refine wp_seq_k (fun K178 hK178 => ?_)
      refine wp_region_lit ?_
      refine wpl_op (i := 0) rfl (o_val (v := (.int .i64 0)) hF149 rfl rfl rfl rfl (rn_assign rfl) ?_)
      intro a179 hF180; clear hF149
      refine wpList_nil ?_
      refine hK178 _ _ ?_
      clear hK178
      refine wp_block ?_
      have hfl := hp80
      have h064 : nf % 64 = 0 ∧ 0 < nf := by omega
      refine wp_loop (fun a' W => ∃ (n : Nat) (hh : List UInt32), Sl 74 [(0, (.slice A b.length c)), (2, (.pointer (some ⟨g2, 0, none⟩))), (3, (.pointer (some ⟨g16, 0, none⟩))), (4, (.slice Af nf cf)), (26, (.bool (decide (((nf % 64 : Nat) : Int) ≠ (0 : Int))))), (5, (.int .i64 (n : Nat)))] a' ∧ n ≤ nf ∧ n % 64 = 0 ∧ SumInv b f n hh ∧ hh.length = 8 ∧ Ext w W ∧ Blk W g2 26 (byteVals (List.replicate 32 0)) ∧ Blk W g16 48 (u32Vals hh) ∧ W.ownsRow g43 5 1 (.slice Af nf cf) nf (byteVals f) ∧ g43 ≤ W.heap.size ∧ w75.heap.size ≤ W.heap.size) (fun a' _ => nf - (intOf (a'.eval (.tmp 5))).toNat) ⟨0, v69, ((((((hF180.nil.cons (q_get hF180 (t := 5) rfl (by first | rfl | (congr 1; omega) | (congr 1; done)))).cons (q_get hF180 (t := 26) rfl rfl)).cons (q_get hF180 (t := 4) rfl rfl)).cons (q_get hF180 (t := 3) rfl rfl)).cons (q_get hF180 (t := 2) rfl rfl)).cons (q_get hF180 (t := 0) rfl rfl)), (by omega), (by omega), (by rw [e70]; exact SumInv.start (by omega)), hl71, ((Ext.refl w).trans hx77), b81, b82, r83, (by omega), (Nat.le_refl _)⟩ ?_
      clear hF180
      rintro a181 w182 ⟨n, hh, hF183, hp185, hp186, hp187, hp188, hx184, b189, b190, r191, hf192, hf193⟩
      have hL194 := hF183
      have z195 := hx184.size
      have z196 := b189.lt
      have z197 := b190.lt
      have z198 := own_form0 r191
      have hhl : hh.length = 8 := hp188
      refine wp_seq_k (fun K199 hK199 => ?_)
      refine wp_seq_k (fun K200 hK200 => ?_)
      refine wp_region_lit ?_
      refine wpl_op (i := 0) rfl (o_val (v := (.int .i64 (n : Nat))) hF183 rfl rfl rfl rfl (rn_move (hF183.get rfl)) ?_)
      intro a201 hF202; clear hF183
      refine wpl_op (i := 1) rfl (o_val (v := (.slice Af nf cf)) hF202 rfl rfl rfl rfl (rn_move (hF202.get rfl)) ?_)
      intro a203 hF204; clear hF202
      refine wpl_op (i := 2) rfl (o_val (v := (.int .i64 (nf : Nat))) hF204 rfl rfl rfl rfl (rn_len_slice Tryd.underlying22 (hF204.get rfl)) ?_)
      intro a205 hF206; clear hF204
      refine wpl_op (i := 3) rfl (o_val (v := (.bool (decide (((n : Nat) : Int) < ((nf : Nat) : Int))))) hF206 rfl rfl rfl rfl (rn_lss (hF206.get rfl) (hF206.get rfl)) ?_)
      intro a207 hF208; clear hF206
      refine wpList_nil ?_
      refine hK200 _ _ ?_
      clear hK200
      by_cases hc209 : ((n : Nat) : Int) < ((nf : Nat) : Int)
      · skip
        refine wp_cond_true (c_true hF208 rfl (decide_eq_true hc209)) ?_
        refine wp_skip ?_
        refine hK199 _ _ ?_
        clear hK199
        refine wp_seq_k (fun K210 hK210 => ?_)
        refine wp_block ?_
        refine wp_seq_k (fun K211 hK211 => ?_)
        refine wp_region_lit ?_
        refine wpl_op (i := 0) rfl (o_val (v := (.int .i64 (n : Nat))) hF208 rfl rfl rfl rfl (rn_move (hF208.get rfl)) ?_)
        intro a212 hF213; clear hF208
        refine wpl_op (i := 1) rfl (o_val (v := (.int .i64 (n + 64 : Nat))) hF213 rfl rfl rfl rfl (rn_addN (a := n) (b := 64) (hF213.get rfl) rfl (by omega)) ?_)
        intro a214 hF215; clear hF213
        refine wpl_op (i := 2) rfl (o_val (v := (.slice Af nf cf)) hF215 rfl rfl rfl rfl (rn_move (hF215.get rfl)) ?_)
        intro a216 hF217; clear hF215
        refine wpl_op (i := 3) rfl (o_val (v := (.int .i64 (nf : Nat))) hF217 rfl rfl rfl rfl (rn_len_slice Tryd.underlying22 (hF217.get rfl)) ?_)
        intro a218 hF219; clear hF217
        refine wpl_op (i := 4) rfl (o_val (v := (.bool (decide (((n + 64 : Nat) : Int) = ((nf : Nat) : Int))))) hF219 rfl rfl rfl rfl (rn_eql (hF219.get rfl) (hF219.get rfl)) ?_)
        intro a220 hF221; clear hF219
        refine wpl_op (i := 5) rfl (o_val (v := (.bool (decide (((n + 64 : Nat) : Int) = ((nf : Nat) : Int))))) hF221 rfl rfl rfl rfl (rn_assign (hF221.get rfl)) ?_)
        intro a222 hF223; clear hF221
        refine wpList_nil ?_
        refine hK211 _ _ ?_
        clear hK211
        have hF224 := ((((((((hF223.nil.cons (hF223.get (t := 6) (v := (.bool (decide (((n + 64 : Nat) : Int) = ((nf : Nat) : Int))))) rfl)).cons (hF223.get (t := 33) (v := (.bool (decide (((n : Nat) : Int) < ((nf : Nat) : Int))))) rfl)).cons (hF223.get (t := 5) (v := (.int .i64 (n : Nat))) rfl)).cons (hF223.get (t := 26) (v := (.bool (decide (((nf % 64 : Nat) : Int) ≠ (0 : Int))))) rfl)).cons (hF223.get (t := 4) (v := (.slice Af nf cf)) rfl)).cons (hF223.get (t := 3) (v := (.pointer (some ⟨g16, 0, none⟩))) rfl)).cons (hF223.get (t := 2) (v := (.pointer (some ⟨g2, 0, none⟩))) rfl)).cons (hF223.get (t := 0) (v := (.slice A b.length c)) rfl))
        clear hF223
        refine wp_seq_k (fun K225 hK225 => ?_)
        refine wp_region_lit ?_
        refine wpl_op (i := 0) rfl (o_val (v := (.int .i64 (n : Nat))) hF224 rfl rfl rfl rfl (rn_move (hF224.get rfl)) ?_)
        intro a226 hF227; clear hF224
        refine wpl_op (i := 1) rfl (o_val (v := (.int .i64 (n + 64 : Nat))) hF227 rfl rfl rfl rfl (rn_addN (a := n) (b := 64) (hF227.get rfl) rfl (by omega)) ?_)
        intro a228 hF229; clear hF227
        refine wpl_op (i := 2) rfl (o_val (v := (.int .u64 ((UInt64.ofNat (n + 64)).toNat : Nat))) hF229 rfl rfl rfl rfl (rn_convW Tryd.underlying3 Tryd.underlying49 (hF229.get rfl) (cvi_64 (n + 64) (by omega))) ?_)
        intro a230 hF231; clear hF229
        refine wpl_op (i := 3) rfl (o_val (v := (.int .u64 ((UInt64.ofNat (n + 64)).toNat : Nat))) hF231 rfl rfl rfl rfl (rn_assign (hF231.get rfl)) ?_)
        intro a232 hF233; clear hF231
        refine wpList_nil ?_
        refine hK225 _ _ ?_
        clear hK225
        refine wp_seq_k (fun K234 hK234 => ?_)
        refine wp_seq_k (fun K235 hK235 => ?_)
        refine wp_region_lit ?_
        refine wpl_op (i := 0) rfl (o_val (v := (.bool (decide (((n + 64 : Nat) : Int) = ((nf : Nat) : Int))))) hF233 rfl rfl rfl rfl (rn_move (hF233.get rfl)) ?_)
        intro a236 hF237; clear hF233
        refine wpList_nil ?_
        refine hK235 _ _ ?_
        clear hK235
        by_cases hc238 : ((n + 64 : Nat) : Int) = ((nf : Nat) : Int)
        · skip
          refine wp_cond_true (c_true hF237 rfl (decide_eq_true hc238)) ?_
          refine wp_region_lit ?_
          refine wpl_op (i := 0) rfl (o_val (v := (.slice A b.length c)) hF237 rfl rfl rfl rfl (rn_move (hF237.get rfl)) ?_)
          intro a239 hF240; clear hF237
          refine wpl_op (i := 1) rfl (o_val (v := (.int .i64 (b.length : Nat))) hF240 rfl rfl rfl rfl (rn_len_slice Tryd.underlying22 (hF240.get rfl)) ?_)
          intro a241 hF242; clear hF240
          refine wpl_op (i := 2) rfl (o_val (v := (.int .u64 ((UInt64.ofNat b.length).toNat : Nat))) hF242 rfl rfl rfl rfl (rn_convW Tryd.underlying3 Tryd.underlying49 (hF242.get rfl) (cvi_64 b.length (by omega))) ?_)
          intro a243 hF244; clear hF242
          refine wpl_op (i := 3) rfl (o_val (v := (.int .u64 ((UInt64.ofNat b.length).toNat : Nat))) hF244 rfl rfl rfl rfl (rn_assign (hF244.get rfl)) ?_)
          intro a245 hF246; clear hF244
          refine wpList_nil ?_
          refine hK234 _ _ ?_
          clear hK234
          have hF247 := ((((((((((hF246.nil.cons (hF246.get (t := 44) (v := (.bool (decide (((n + 64 : Nat) : Int) = ((nf : Nat) : Int))))) rfl)).cons (hF246.get (t := 7) (v := (.int .u64 ((UInt64.ofNat b.length).toNat : Nat))) rfl)).cons (hF246.get (t := 6) (v := (.bool (decide (((n + 64 : Nat) : Int) = ((nf : Nat) : Int))))) rfl)).cons (hF246.get (t := 33) (v := (.bool (decide (((n : Nat) : Int) < ((nf : Nat) : Int))))) rfl)).cons (hF246.get (t := 5) (v := (.int .i64 (n : Nat))) rfl)).cons (hF246.get (t := 26) (v := (.bool (decide (((nf % 64 : Nat) : Int) ≠ (0 : Int))))) rfl)).cons (hF246.get (t := 4) (v := (.slice Af nf cf)) rfl)).cons (hF246.get (t := 3) (v := (.pointer (some ⟨g16, 0, none⟩))) rfl)).cons (hF246.get (t := 2) (v := (.pointer (some ⟨g2, 0, none⟩))) rfl)).cons (hF246.get (t := 0) (v := (.slice A b.length c)) rfl))
          clear hF246
          have hx249 : ∃ W, w182.drew = W ∧ Ext w182 W := ⟨_, rfl, (Ext.refl _).drew⟩
          obtain ⟨w248, e250, hx249⟩ := hx249
          have z251 := hx249.size
          refine any_start (fun W => Ext w248 W ∧ Blk W g16 48 (u32Vals hh)) (fun i => i == 9) 10 #[false, false, false, false, false, false, false, false, false, false] rfl rfl rfl ?_
          rw [e250]; clear e250
          have b253 : Blk w248 g16 48 (u32Vals hh) := (b190.ext hx249)
          have hS252 : Ext w248 w248 ∧ Blk w248 g16 48 (u32Vals hh) := ⟨(Ext.refl w248), b253⟩
          refine any_val (i := 0) (v := (.agg (u32Vals hh).toArray)) hF247 (by decide +kernel) (by decide +kernel) rfl rfl rfl rfl (fun _ _ _ _ h => h) rfl hS252 (fun W hW => (rn_loadBlk (hF247.get rfl) hW.2 Tryd.underlying48 rfl ((by kernel_rfl : (Tryd.prog.info? 48).map (·.size) = some 8).trans (congrArg some (u32Vals_len hhl).symm)))) ?_
          intro a254 hF255; clear hF247
          refine any_pure (i := 1) (v := (.slice Af nf cf)) hF255 (by decide +kernel) (by decide +kernel) rfl rfl rfl rfl (fun _ _ _ _ h => h) rfl (fun W => (rn_move (hF255.get rfl))) ?_
          intro a256 hF257; clear hF255
          refine any_pure (i := 2) (v := (.int .i64 (n : Nat))) hF257 (by decide +kernel) (by decide +kernel) rfl rfl rfl rfl (fun _ _ _ _ h => h) rfl (fun W => (rn_move (hF257.get rfl))) ?_
          intro a258 hF259; clear hF257
          refine any_pure (i := 3) (v := (.int .i64 (n : Nat))) hF259 (by decide +kernel) (by decide +kernel) rfl rfl rfl rfl (fun _ _ _ _ h => h) rfl (fun W => (rn_move (hF259.get rfl))) ?_
          intro a260 hF261; clear hF259
          refine any_pure (i := 4) (v := (.int .i64 (n + 64 : Nat))) hF261 (by decide +kernel) (by decide +kernel) rfl rfl rfl rfl (fun _ _ _ _ h => h) rfl (fun W => (rn_addN (a := n) (b := 64) (hF261.get rfl) rfl (by omega))) ?_
          intro a262 hF263; clear hF261
          have r267 := (own_ext r191 hx249)
          have hf268 := (Fl.own (S := fun b => g43 ≤ b) r267 (fun b hb => hb) (byteVals_one _))
          obtain ⟨b264, o265, hA266, -⟩ := Fl.at hf268 (by omega)
          refine any_pure (i := 5) (v := (.slice (some ⟨b264, o265 + n * 1, none⟩) 64 (cf - n))) hF263 (by decide +kernel) (by decide +kernel) rfl rfl rfl rfl (fun _ _ _ _ h => h) rfl (fun W => (rn_sliceLH (l := n) (h := (n + 64)) Tryd.underlying22 (by kernel_rfl : (Tryd.prog.info? 5).map (·.size) = some 1) ((hF263.get rfl).trans (by rw [hA266])) (hF263.get rfl) (hF263.get rfl) (by omega) (by omega) (by omega) (by omega))) ?_
          intro a269 hF270; clear hF263
          refine any_pure (i := 6) (v := (.int .u64 ((UInt64.ofNat b.length).toNat : Nat))) hF270 (by decide +kernel) (by decide +kernel) rfl rfl rfl rfl (fun _ _ _ _ h => h) rfl (fun W => (rn_move (hF270.get rfl))) ?_
          intro a271 hF272; clear hF270
          refine any_pure (i := 7) (v := (.bool (decide (((n + 64 : Nat) : Int) = ((nf : Nat) : Int))))) hF272 (by decide +kernel) (by decide +kernel) rfl rfl rfl rfl (fun _ _ _ _ h => h) rfl (fun W => (rn_move (hF272.get rfl))) ?_
          intro a273 hF274; clear hF272
          refine any_one (i := 8) (by decide +kernel) rfl ?_
          refine o_call hF274 rfl rfl rfl rfl (rn_call (args4 (hF274.get rfl) (hF274.get rfl) (hF274.get rfl) (hF274.get rfl)) rfl (by kernel_rfl)) (rblock_at hh ((f.drop n).take 64) (UInt64.ofNat b.length) (decide (((n + 64 : Nat) : Int) = ((nf : Nat) : Int))) _ hhl (Fl.mid_eq (j := n) (m' := 64) hf268 hA266 (by omega) (by omega) (by simp only [byteVals_drop1, byteVals_take1]))) ?_
          rintro _ w275 ⟨rfl, hx276⟩
          refine ⟨_, rfl, ?_⟩; intro a277 hF278; clear hF274; have z279 := hx276.size
          have b280 : Blk w275 g16 48 (u32Vals hh) := (b253.ext hx276)
          refine ⟨fun _ _ => ⟨((Ext.refl w248).trans hx276), b280⟩, ?_⟩
          refine any_one (i := 9) (by decide +kernel) rfl ?_
          refine o_store (cells := (u32Vals (absorb hh ((f.drop n).take 64) (UInt64.ofNat b.length) (decide (((n + 64 : Nat) : Int) = ((nf : Nat) : Int)))))) hF278 rfl rfl rfl rfl (hF278.get rfl) (hF278.get rfl) b280 ((by kernel_rfl : (Tryd.prog.info? 48).map (·.size) = some 8).trans (congrArg some (u32Vals_len (absorb_len hhl)).symm)) ((u32Vals_len hhl).trans (u32Vals_len (absorb_len hhl)).symm) (u32Vals_one _) ?_
          intro w281 b282 hg283; have z284 := hg283.size
          refine ⟨fun h => absurd h (by decide), ?_⟩
          refine any_nil (by decide +kernel) ?_
          refine hK210 _ _ ?_
          clear hK210
          have hF285 := ((((((((((hF278.nil.cons (hF278.get (t := 44) (v := (.bool (decide (((n + 64 : Nat) : Int) = ((nf : Nat) : Int))))) rfl)).cons (hF278.get (t := 7) (v := (.int .u64 ((UInt64.ofNat b.length).toNat : Nat))) rfl)).cons (hF278.get (t := 6) (v := (.bool (decide (((n + 64 : Nat) : Int) = ((nf : Nat) : Int))))) rfl)).cons (hF278.get (t := 33) (v := (.bool (decide (((n : Nat) : Int) < ((nf : Nat) : Int))))) rfl)).cons (hF278.get (t := 5) (v := (.int .i64 (n : Nat))) rfl)).cons (hF278.get (t := 26) (v := (.bool (decide (((nf % 64 : Nat) : Int) ≠ (0 : Int))))) rfl)).cons (hF278.get (t := 4) (v := (.slice Af nf cf)) rfl)).cons (hF278.get (t := 3) (v := (.pointer (some ⟨g16, 0, none⟩))) rfl)).cons (hF278.get (t := 2) (v := (.pointer (some ⟨g2, 0, none⟩))) rfl)).cons (hF278.get (t := 0) (v := (.slice A b.length c)) rfl))
          clear hF278
          refine wp_region_lit ?_
          refine wpl_op (i := 0) rfl (o_val (v := (.int .i64 (n : Nat))) hF285 rfl rfl rfl rfl (rn_move (hF285.get rfl)) ?_)
          intro a286 hF287; clear hF285
          refine wpl_op (i := 1) rfl (o_val (v := (.int .i64 (n + 64 : Nat))) hF287 rfl rfl rfl rfl (rn_addN (a := n) (b := 64) (hF287.get rfl) rfl (by omega)) ?_)
          intro a288 hF289; clear hF287
          refine wpl_op (i := 2) rfl (o_val (v := (.int .i64 (n + 64 : Nat))) hF289 rfl rfl rfl rfl (rn_assign (hF289.get rfl)) ?_)
          intro a290 hF291; clear hF289
          refine wpList_nil ?_
          obtain ⟨v292, e293⟩ : ∃ z, z = absorb hh ((f.drop n).take 64) (UInt64.ofNat b.length) (decide (((n + 64 : Nat) : Int) = ((nf : Nat) : Int))) := ⟨_, rfl⟩
          have hl294 : v292.length = 8 := (congrArg List.length e293).trans (absorb_len hhl)
          rw [← e293] at b282
          have b295 : Blk w281 g2 26 (byteVals (List.replicate 32 0)) := (((b189.ext hx249).ext hx276).grownN hg283 (by omega))
          have r296 := (own_grownT (own_ext r267 hx276) b280 hg283 (by decide))
          refine ⟨⟨(n + 64), v292, ((((((hF291.nil.cons (q_get hF291 (t := 5) rfl (by first | rfl | (congr 1; omega) | (congr 1; done)))).cons (q_get hF291 (t := 26) rfl rfl)).cons (q_get hF291 (t := 4) rfl rfl)).cons (q_get hF291 (t := 3) rfl rfl)).cons (q_get hF291 (t := 2) rfl rfl)).cons (q_get hF291 (t := 0) rfl rfl)), (by omega), (by omega), (by rw [e293]; exact SumInv.next hp78 (by omega) (by omega) (by omega) (by omega) hp187 (by simp only [decide_eq_decide]; omega) (by rw [if_pos (by omega)])), hl294, (((((Ext.refl w).trans hx184).trans hx249).trans hx276).grownN hg283 (by omega)), b295, b282, r296, (by omega), (by omega)⟩, ?_⟩
          rw [hF291.get (t := 5) rfl, hL194.get (t := 5) rfl]; simp [intOf] <;> omega
        · skip
          refine wp_cond_false (c_false hF237 rfl (decide_eq_false hc238)) ?_
          refine wp_skip ?_
          refine hK234 _ _ ?_
          clear hK234
          have hx298 : ∃ W, w182.drew = W ∧ Ext w182 W := ⟨_, rfl, (Ext.refl _).drew⟩
          obtain ⟨w297, e299, hx298⟩ := hx298
          have z300 := hx298.size
          refine any_start (fun W => Ext w297 W ∧ Blk W g16 48 (u32Vals hh)) (fun i => i == 9) 10 #[false, false, false, false, false, false, false, false, false, false] rfl rfl rfl ?_
          rw [e299]; clear e299
          have b302 : Blk w297 g16 48 (u32Vals hh) := (b190.ext hx298)
          have hS301 : Ext w297 w297 ∧ Blk w297 g16 48 (u32Vals hh) := ⟨(Ext.refl w297), b302⟩
          refine any_val (i := 0) (v := (.agg (u32Vals hh).toArray)) hF237 (by decide +kernel) (by decide +kernel) rfl rfl rfl rfl (fun _ _ _ _ h => h) rfl hS301 (fun W hW => (rn_loadBlk (hF237.get rfl) hW.2 Tryd.underlying48 rfl ((by kernel_rfl : (Tryd.prog.info? 48).map (·.size) = some 8).trans (congrArg some (u32Vals_len hhl).symm)))) ?_
          intro a303 hF304; clear hF237
          refine any_pure (i := 1) (v := (.slice Af nf cf)) hF304 (by decide +kernel) (by decide +kernel) rfl rfl rfl rfl (fun _ _ _ _ h => h) rfl (fun W => (rn_move (hF304.get rfl))) ?_
          intro a305 hF306; clear hF304
          refine any_pure (i := 2) (v := (.int .i64 (n : Nat))) hF306 (by decide +kernel) (by decide +kernel) rfl rfl rfl rfl (fun _ _ _ _ h => h) rfl (fun W => (rn_move (hF306.get rfl))) ?_
          intro a307 hF308; clear hF306
          refine any_pure (i := 3) (v := (.int .i64 (n : Nat))) hF308 (by decide +kernel) (by decide +kernel) rfl rfl rfl rfl (fun _ _ _ _ h => h) rfl (fun W => (rn_move (hF308.get rfl))) ?_
          intro a309 hF310; clear hF308
          refine any_pure (i := 4) (v := (.int .i64 (n + 64 : Nat))) hF310 (by decide +kernel) (by decide +kernel) rfl rfl rfl rfl (fun _ _ _ _ h => h) rfl (fun W => (rn_addN (a := n) (b := 64) (hF310.get rfl) rfl (by omega))) ?_
          intro a311 hF312; clear hF310
          have r316 := (own_ext r191 hx298)
          have hf317 := (Fl.own (S := fun b => g43 ≤ b) r316 (fun b hb => hb) (byteVals_one _))
          obtain ⟨b313, o314, hA315, -⟩ := Fl.at hf317 (by omega)
          refine any_pure (i := 5) (v := (.slice (some ⟨b313, o314 + n * 1, none⟩) 64 (cf - n))) hF312 (by decide +kernel) (by decide +kernel) rfl rfl rfl rfl (fun _ _ _ _ h => h) rfl (fun W => (rn_sliceLH (l := n) (h := (n + 64)) Tryd.underlying22 (by kernel_rfl : (Tryd.prog.info? 5).map (·.size) = some 1) ((hF312.get rfl).trans (by rw [hA315])) (hF312.get rfl) (hF312.get rfl) (by omega) (by omega) (by omega) (by omega))) ?_
          intro a318 hF319; clear hF312
          refine any_pure (i := 6) (v := (.int .u64 ((UInt64.ofNat (n + 64)).toNat : Nat))) hF319 (by decide +kernel) (by decide +kernel) rfl rfl rfl rfl (fun _ _ _ _ h => h) rfl (fun W => (rn_move (hF319.get rfl))) ?_
          intro a320 hF321; clear hF319
          refine any_pure (i := 7) (v := (.bool (decide (((n + 64 : Nat) : Int) = ((nf : Nat) : Int))))) hF321 (by decide +kernel) (by decide +kernel) rfl rfl rfl rfl (fun _ _ _ _ h => h) rfl (fun W => (rn_move (hF321.get rfl))) ?_
          intro a322 hF323; clear hF321
          refine any_one (i := 8) (by decide +kernel) rfl ?_
          refine o_call hF323 rfl rfl rfl rfl (rn_call (args4 (hF323.get rfl) (hF323.get rfl) (hF323.get rfl) (hF323.get rfl)) rfl (by kernel_rfl)) (rblock_at hh ((f.drop n).take 64) (UInt64.ofNat (n + 64)) (decide (((n + 64 : Nat) : Int) = ((nf : Nat) : Int))) _ hhl (Fl.mid_eq (j := n) (m' := 64) hf317 hA315 (by omega) (by omega) (by simp only [byteVals_drop1, byteVals_take1]))) ?_
          rintro _ w324 ⟨rfl, hx325⟩
          refine ⟨_, rfl, ?_⟩; intro a326 hF327; clear hF323; have z328 := hx325.size
          have b329 : Blk w324 g16 48 (u32Vals hh) := (b302.ext hx325)
          refine ⟨fun _ _ => ⟨((Ext.refl w297).trans hx325), b329⟩, ?_⟩
          refine any_one (i := 9) (by decide +kernel) rfl ?_
          refine o_store (cells := (u32Vals (absorb hh ((f.drop n).take 64) (UInt64.ofNat (n + 64)) (decide (((n + 64 : Nat) : Int) = ((nf : Nat) : Int)))))) hF327 rfl rfl rfl rfl (hF327.get rfl) (hF327.get rfl) b329 ((by kernel_rfl : (Tryd.prog.info? 48).map (·.size) = some 8).trans (congrArg some (u32Vals_len (absorb_len hhl)).symm)) ((u32Vals_len hhl).trans (u32Vals_len (absorb_len hhl)).symm) (u32Vals_one _) ?_
          intro w330 b331 hg332; have z333 := hg332.size
          refine ⟨fun h => absurd h (by decide), ?_⟩
          refine any_nil (by decide +kernel) ?_
          refine hK210 _ _ ?_
          clear hK210
          have hF334 := ((((((((((hF327.nil.cons (hF327.get (t := 44) (v := (.bool (decide (((n + 64 : Nat) : Int) = ((nf : Nat) : Int))))) rfl)).cons (hF327.get (t := 7) (v := (.int .u64 ((UInt64.ofNat (n + 64)).toNat : Nat))) rfl)).cons (hF327.get (t := 6) (v := (.bool (decide (((n + 64 : Nat) : Int) = ((nf : Nat) : Int))))) rfl)).cons (hF327.get (t := 33) (v := (.bool (decide (((n : Nat) : Int) < ((nf : Nat) : Int))))) rfl)).cons (hF327.get (t := 5) (v := (.int .i64 (n : Nat))) rfl)).cons (hF327.get (t := 26) (v := (.bool (decide (((nf % 64 : Nat) : Int) ≠ (0 : Int))))) rfl)).cons (hF327.get (t := 4) (v := (.slice Af nf cf)) rfl)).cons (hF327.get (t := 3) (v := (.pointer (some ⟨g16, 0, none⟩))) rfl)).cons (hF327.get (t := 2) (v := (.pointer (some ⟨g2, 0, none⟩))) rfl)).cons (hF327.get (t := 0) (v := (.slice A b.length c)) rfl))
          clear hF327
          refine wp_region_lit ?_
          refine wpl_op (i := 0) rfl (o_val (v := (.int .i64 (n : Nat))) hF334 rfl rfl rfl rfl (rn_move (hF334.get rfl)) ?_)
          intro a335 hF336; clear hF334
          refine wpl_op (i := 1) rfl (o_val (v := (.int .i64 (n + 64 : Nat))) hF336 rfl rfl rfl rfl (rn_addN (a := n) (b := 64) (hF336.get rfl) rfl (by omega)) ?_)
          intro a337 hF338; clear hF336
          refine wpl_op (i := 2) rfl (o_val (v := (.int .i64 (n + 64 : Nat))) hF338 rfl rfl rfl rfl (rn_assign (hF338.get rfl)) ?_)
          intro a339 hF340; clear hF338
          refine wpList_nil ?_
          obtain ⟨v341, e342⟩ : ∃ z, z = absorb hh ((f.drop n).take 64) (UInt64.ofNat (n + 64)) (decide (((n + 64 : Nat) : Int) = ((nf : Nat) : Int))) := ⟨_, rfl⟩
          have hl343 : v341.length = 8 := (congrArg List.length e342).trans (absorb_len hhl)
          rw [← e342] at b331
          have b344 : Blk w330 g2 26 (byteVals (List.replicate 32 0)) := (((b189.ext hx298).ext hx325).grownN hg332 (by omega))
          have r345 := (own_grownT (own_ext r316 hx325) b329 hg332 (by decide))
          refine ⟨⟨(n + 64), v341, ((((((hF340.nil.cons (q_get hF340 (t := 5) rfl (by first | rfl | (congr 1; omega) | (congr 1; done)))).cons (q_get hF340 (t := 26) rfl rfl)).cons (q_get hF340 (t := 4) rfl rfl)).cons (q_get hF340 (t := 3) rfl rfl)).cons (q_get hF340 (t := 2) rfl rfl)).cons (q_get hF340 (t := 0) rfl rfl)), (by omega), (by omega), (by rw [e342]; exact SumInv.next hp78 (by omega) (by omega) (by omega) (by omega) hp187 (by simp only [decide_eq_decide]; omega) (by rw [if_neg (by omega)])), hl343, (((((Ext.refl w).trans hx184).trans hx298).trans hx325).grownN hg332 (by omega)), b344, b331, r345, (by omega), (by omega)⟩, ?_⟩
          rw [hF340.get (t := 5) rfl, hL194.get (t := 5) rfl]; simp [intOf] <;> omega
      · skip
        refine wp_cond_false (c_false hF208 rfl (decide_eq_false hc209)) ?_
        refine wp_exit ?_
        refine exit_then ?_
        refine exit_then ?_
        refine exit_here ?_
        refine hK177 _ _ ?_
        clear hK177
        refine wp_seq_k (fun K346 hK346 => ?_)
        refine wp_region_lit ?_
        refine wpl_op (i := 0) rfl (o_val (v := (.agg (byteVals (List.replicate 32 0)).toArray)) hF208 rfl rfl rfl rfl (rn_build parts0 (by kernel_rfl)) ?_)
        intro a347 hF348; clear hF208
        refine wpl_op (i := 1) rfl (o_new (fun g => (.pointer (some ⟨g, 0, none⟩))) (byteVals (List.replicate 32 0)) 26 hF348 rfl rfl rfl rfl (by kernel_rfl) ?_)
        intro g349 w350 a355 hF356 z353 z354 b351 hx352; clear hF348
        refine wpl_op (i := 2) rfl (o_store (cells := (byteVals (List.replicate 32 0))) hF356 rfl rfl rfl rfl (hF356.get rfl) (hF356.get rfl) b351 ((by kernel_rfl : (Tryd.prog.info? 26).map (·.size) = some 32).trans (congrArg some (byteVals_len (show List.length (List.replicate 32 0) = _ from List.length_replicate)).symm)) ((byteVals_len (show List.length (List.replicate 32 0) = _ from List.length_replicate)).trans (byteVals_len (show List.length (List.replicate 32 0) = _ from List.length_replicate)).symm) (byteVals_one _) ?_)
        intro w357 b358 hg359; have z360 := hg359.size
        refine wpList_nil ?_
        refine hK346 _ _ ?_
        clear hK346
        have hF361 := ((((((((hF356.nil.cons (hF356.get (t := 8) (v := (.pointer (some ⟨g349, 0, none⟩))) rfl)).cons (hF356.get (t := 33) (v := (.bool (decide (((n : Nat) : Int) < ((nf : Nat) : Int))))) rfl)).cons (hF356.get (t := 5) (v := (.int .i64 (n : Nat))) rfl)).cons (hF356.get (t := 26) (v := (.bool (decide (((nf % 64 : Nat) : Int) ≠ (0 : Int))))) rfl)).cons (hF356.get (t := 4) (v := (.slice Af nf cf)) rfl)).cons (hF356.get (t := 3) (v := (.pointer (some ⟨g16, 0, none⟩))) rfl)).cons (hF356.get (t := 2) (v := (.pointer (some ⟨g2, 0, none⟩))) rfl)).cons (hF356.get (t := 0) (v := (.slice A b.length c)) rfl))
        clear hF356
        refine wp_seq_k (fun K362 hK362 => ?_)
        refine wp_seq_k (fun K363 hK363 => ?_)
        refine wp_region_lit ?_
        refine wpl_op (i := 0) rfl (o_val (v := (.int .i64 0)) hF361 rfl rfl rfl rfl (rn_assign rfl) ?_)
        intro a364 hF365; clear hF361
        refine wpList_nil ?_
        refine hK363 _ _ ?_
        clear hK363
        refine wp_block ?_
        have hdone := SumInv.done hp187 (by omega)
        have b366 : Blk w357 g2 26 (byteVals (List.replicate 32 0)) := ((b189.ext hx352).grownN hg359 (by omega))
        have b367 : Blk w357 g16 48 (u32Vals hh) := ((b190.ext hx352).grownN hg359 (by omega))
        refine wp_loop (fun a' W => ∃ (k2 : Nat) (dd : List UInt8), Sl 74 [(0, (.slice A b.length c)), (2, (.pointer (some ⟨g2, 0, none⟩))), (3, (.pointer (some ⟨g16, 0, none⟩))), (4, (.slice Af nf cf)), (26, (.bool (decide (((nf % 64 : Nat) : Int) ≠ (0 : Int))))), (5, (.int .i64 (n : Nat))), (33, (.bool (decide (((n : Nat) : Int) < ((nf : Nat) : Int))))), (8, (.pointer (some ⟨g349, 0, none⟩))), (9, (.int .i64 (k2 : Nat)))] a' ∧ k2 ≤ 32 ∧ dd = outTo hh k2 ∧ Ext w W ∧ Blk W g2 26 (byteVals (List.replicate 32 0)) ∧ Blk W g16 48 (u32Vals hh) ∧ Blk W g349 26 (byteVals dd) ∧ w357.heap.size ≤ W.heap.size) (fun a' _ => 32 - (intOf (a'.eval (.tmp 9))).toNat) ⟨0, (List.replicate 32 0), (((((((((hF365.nil.cons (q_get hF365 (t := 9) rfl (by first | rfl | (congr 1; omega) | (congr 1; done)))).cons (q_get hF365 (t := 8) rfl rfl)).cons (q_get hF365 (t := 33) rfl rfl)).cons (q_get hF365 (t := 5) rfl rfl)).cons (q_get hF365 (t := 26) rfl rfl)).cons (q_get hF365 (t := 4) rfl rfl)).cons (q_get hF365 (t := 3) rfl rfl)).cons (q_get hF365 (t := 2) rfl rfl)).cons (q_get hF365 (t := 0) rfl rfl)), (by omega), rfl, ((((Ext.refl w).trans hx184).trans hx352).grownN hg359 (by omega)), b366, b367, b358, (Nat.le_refl _)⟩ ?_
        clear hF365
        rintro a368 w369 ⟨k2, dd, hF370, hp372, hp373, hx371, b374, b375, b376, hf377⟩
        have hL378 := hF370
        have z379 := hx371.size
        have z380 := b374.lt
        have z381 := b375.lt
        have z382 := b376.lt
        have hdl : dd.length = 32 := by rw [hp373]; exact outTo_len (by omega)
        refine wp_seq_k (fun K383 hK383 => ?_)
        refine wp_seq_k (fun K384 hK384 => ?_)
        refine wp_region_lit ?_
        refine wpl_op (i := 0) rfl (o_val (v := (.int .i64 (k2 : Nat))) hF370 rfl rfl rfl rfl (rn_move (hF370.get rfl)) ?_)
        intro a385 hF386; clear hF370
        refine wpl_op (i := 1) rfl (o_val (v := (.bool (decide (((k2 : Nat) : Int) < (32 : Int))))) hF386 rfl rfl rfl rfl (rn_lss (hF386.get rfl) rfl) ?_)
        intro a387 hF388; clear hF386
        refine wpList_nil ?_
        refine hK384 _ _ ?_
        clear hK384
        by_cases hc389 : ((k2 : Nat) : Int) < (32 : Int)
        · skip
          refine wp_cond_true (c_true hF388 rfl (decide_eq_true hc389)) ?_
          refine wp_skip ?_
          refine hK383 _ _ ?_
          clear hK383
          refine wp_seq_k (fun K390 hK390 => ?_)
          refine wp_block ?_
          refine wp_region_lit ?_
          refine wpl_op (i := 0) rfl (o_val (v := (.int .i64 (k2 : Nat))) hF388 rfl rfl rfl rfl (rn_move (hF388.get rfl)) ?_)
          intro a391 hF392; clear hF388
          refine wpl_op (i := 1) rfl (o_val (v := (.int .i64 (k2 : Nat))) hF392 rfl rfl rfl rfl (rn_move (hF392.get rfl)) ?_)
          intro a393 hF394; clear hF392
          refine wpl_op (i := 2) rfl (o_val (v := (.int .i64 (k2 / 4 : Nat))) hF394 rfl rfl rfl rfl (rn_quoN (a := k2) (b := 4) (hF394.get rfl) rfl (by omega) (by omega)) ?_)
          intro a395 hF396; clear hF394
          refine wpl_op (i := 3) rfl (o_val (v := (.pointer (some ⟨g16, 0 + (k2 / 4), none⟩))) hF396 rfl rfl rfl rfl (rn_indexArr Tryd.underlying48 (by kernel_rfl : (Tryd.prog.info? 47).map (·.size) = some 1) (hF396.get rfl) (hF396.get rfl) (by omega : (0 : Int) ≤ (k2 / 4 : Nat)) (by omega : ((k2 / 4 : Nat) : Int) < ((8 : Nat) : Int))) ?_)
          intro a397 hF398; clear hF396
          refine wpl_op (i := 4) rfl (o_val (v := (.int .u32 ((hh.getD (k2 / 4) 0).toNat : Nat))) hF398 rfl rfl rfl rfl (rn_load (isAgg_no Tryd.underlying47 rfl) (hF398.get rfl) (blk_word b375 (by omega) (by have := (show List.length hh = _ from hhl); omega))) ?_)
          intro a399 hF400; clear hF398
          refine wpl_op (i := 5) rfl (o_val (v := (.int .i64 (k2 : Nat))) hF400 rfl rfl rfl rfl (rn_move (hF400.get rfl)) ?_)
          intro a401 hF402; clear hF400
          refine wpl_op (i := 6) rfl (o_val (v := (.int .i64 (k2 % 4 : Nat))) hF402 rfl rfl rfl rfl (rn_remN (a := k2) (b := 4) (hF402.get rfl) rfl (by omega)) ?_)
          intro a403 hF404; clear hF402
          refine wpl_op (i := 7) rfl (o_val (v := (.int .i64 (8 * (k2 % 4) : Nat))) hF404 rfl rfl rfl rfl (rn_mulN (a := 8) (b := k2 % 4) rfl (hF404.get rfl) (by omega)) ?_)
          intro a405 hF406; clear hF404
          refine wpl_op (i := 8) rfl (o_val (v := (.int .u32 (((hh.getD (k2 / 4) 0) >>> UInt32.ofNat (8 * (k2 % 4))).toNat : Nat))) hF406 rfl rfl rfl rfl (rn_shr32 (a := (hh.getD (k2 / 4) 0)) (n := (8 * (k2 % 4))) (hF406.get rfl) (hF406.get rfl) (by omega)) ?_)
          intro a407 hF408; clear hF406
          refine wpl_op (i := 9) rfl (o_val (v := (.int .u8 ((((hh.getD (k2 / 4) 0) >>> UInt32.ofNat (8 * (k2 % 4))).toUInt8).toNat : Nat))) hF408 rfl rfl rfl rfl (rn_convW Tryd.underlying47 Tryd.underlying5 (hF408.get rfl) (cv32_8 ((hh.getD (k2 / 4) 0) >>> UInt32.ofNat (8 * (k2 % 4))))) ?_)
          intro a409 hF410; clear hF408
          refine wpl_op (i := 10) rfl (o_val (v := (.pointer (some ⟨g349, 0 + k2, none⟩))) hF410 rfl rfl rfl rfl (rn_indexArr Tryd.underlying26 (by kernel_rfl : (Tryd.prog.info? 5).map (·.size) = some 1) (hF410.get rfl) (hF410.get rfl) (by omega : (0 : Int) ≤ (k2 : Nat)) (by omega : ((k2 : Nat) : Int) < ((32 : Nat) : Int))) ?_)
          intro a411 hF412; clear hF410
          refine wpl_op (i := 11) rfl (o_store1 (new := (byteVals (dd.set k2 (((hh.getD (k2 / 4) 0) >>> UInt32.ofNat (8 * (k2 % 4))).toUInt8)))) hF412 rfl rfl rfl rfl (hF412.get rfl) (hF412.get rfl) b376 (by kernel_rfl : (Tryd.prog.info? 5).map (·.size) = some 1) (by rw [byteVals_len hdl]; omega) rfl (byteVals_set (by omega)) ?_)
          intro w413 b414 hg415; have z416 := hg415.size
          refine wpList_nil ?_
          refine hK390 _ _ ?_
          clear hK390
          have hF417 := ((((((((((hF412.nil.cons (hF412.get (t := 59) (v := (.bool (decide (((k2 : Nat) : Int) < (32 : Int))))) rfl)).cons (hF412.get (t := 9) (v := (.int .i64 (k2 : Nat))) rfl)).cons (hF412.get (t := 8) (v := (.pointer (some ⟨g349, 0, none⟩))) rfl)).cons (hF412.get (t := 33) (v := (.bool (decide (((n : Nat) : Int) < ((nf : Nat) : Int))))) rfl)).cons (hF412.get (t := 5) (v := (.int .i64 (n : Nat))) rfl)).cons (hF412.get (t := 26) (v := (.bool (decide (((nf % 64 : Nat) : Int) ≠ (0 : Int))))) rfl)).cons (hF412.get (t := 4) (v := (.slice Af nf cf)) rfl)).cons (hF412.get (t := 3) (v := (.pointer (some ⟨g16, 0, none⟩))) rfl)).cons (hF412.get (t := 2) (v := (.pointer (some ⟨g2, 0, none⟩))) rfl)).cons (hF412.get (t := 0) (v := (.slice A b.length c)) rfl))
          clear hF412
          refine wp_region_lit ?_
          refine wpl_op (i := 0) rfl (o_val (v := (.int .i64 (k2 : Nat))) hF417 rfl rfl rfl rfl (rn_move (hF417.get rfl)) ?_)
          intro a418 hF419; clear hF417
          refine wpl_op (i := 1) rfl (o_val (v := (.int .i64 (k2 + 1 : Nat))) hF419 rfl rfl rfl rfl (rn_addN (a := k2) (b := 1) (hF419.get rfl) rfl (by omega)) ?_)
          intro a420 hF421; clear hF419
          refine wpl_op (i := 2) rfl (o_val (v := (.int .i64 (k2 + 1 : Nat))) hF421 rfl rfl rfl rfl (rn_assign (hF421.get rfl)) ?_)
          intro a422 hF423; clear hF421
          refine wpList_nil ?_
          obtain ⟨v424, e425⟩ : ∃ z, z = dd.set k2 (((hh.getD (k2 / 4) 0) >>> UInt32.ofNat (8 * (k2 % 4))).toUInt8) := ⟨_, rfl⟩
          have hl426 : v424.length = 32 := (congrArg List.length e425).trans (show List.length (dd.set k2 (((hh.getD (k2 / 4) 0) >>> UInt32.ofNat (8 * (k2 % 4))).toUInt8)) = _ from List.length_set.trans hdl)
          rw [← e425] at b414
          have b427 : Blk w413 g2 26 (byteVals (List.replicate 32 0)) := (b374.grownN hg415 (by omega))
          have b428 : Blk w413 g16 48 (u32Vals hh) := (b375.grownN hg415 (by omega))
          refine ⟨⟨(k2 + 1), v424, (((((((((hF423.nil.cons (q_get hF423 (t := 9) rfl (by first | rfl | (congr 1; omega) | (congr 1; done)))).cons (q_get hF423 (t := 8) rfl rfl)).cons (q_get hF423 (t := 33) rfl rfl)).cons (q_get hF423 (t := 5) rfl rfl)).cons (q_get hF423 (t := 26) rfl rfl)).cons (q_get hF423 (t := 4) rfl rfl)).cons (q_get hF423 (t := 3) rfl rfl)).cons (q_get hF423 (t := 2) rfl rfl)).cons (q_get hF423 (t := 0) rfl rfl)), (by omega), (outTo_step (by omega) hp373 e425), (((Ext.refl w).trans hx371).grownN hg415 (by omega)), b427, b428, b414, (by omega)⟩, ?_⟩
          rw [hF423.get (t := 9) rfl, hL378.get (t := 9) rfl]; simp [intOf] <;> omega
        · skip
          refine wp_cond_false (c_false hF388 rfl (decide_eq_false hc389)) ?_
          refine wp_exit ?_
          refine exit_then ?_
          refine exit_then ?_
          refine exit_here ?_
          refine hK362 _ _ ?_
          clear hK362
          refine wp_seq_k (fun K429 hK429 => ?_)
          refine wp_region_lit ?_
          refine wpl_op (i := 0) rfl (o_val (v := (.agg (byteVals dd).toArray)) hF388 rfl rfl rfl rfl (rn_loadBlk (hF388.get rfl) b376 Tryd.underlying26 rfl ((by kernel_rfl : (Tryd.prog.info? 26).map (·.size) = some 32).trans (congrArg some (byteVals_len hdl).symm))) ?_)
          intro a430 hF431; clear hF388
          refine wpl_op (i := 1) rfl (o_store (cells := (byteVals dd)) hF431 rfl rfl rfl rfl (hF431.get rfl) (hF431.get rfl) b374 ((by kernel_rfl : (Tryd.prog.info? 26).map (·.size) = some 32).trans (congrArg some (byteVals_len hdl).symm)) ((byteVals_len (show List.length (List.replicate 32 0) = _ from List.length_replicate)).trans (byteVals_len hdl).symm) (byteVals_one _) ?_)
          intro w432 b433 hg434; have z435 := hg434.size
          refine wpList_nil ?_
          refine hK429 _ _ ?_
          clear hK429
          refine wp_ret ?_
          refine retC hF431 rfl rfl b433 Tryd.underlying26 rfl ((by kernel_rfl : (Tryd.prog.info? 26).map (·.size) = some 32).trans (congrArg some (byteVals_len hdl).symm)) ?_
          have hd : dd = bsum b := by rw [hp373, show k2 = 32 by omega, outTo_all, hdone]; rfl
          exact ⟨by rw [← hd], (((Ext.refl w).trans hx371).grownN hg434 (by omega))⟩

theorem rsum_at {v : Value} {n : Nat} (b : List UInt8) (w : World) (hf : Fl S w 1 v n (byteVals b)) (hb : n ≤ 70368744177664) : Calls Tryd.prog 12 #[v] w (fun e w' => e = .returned (.agg (byteVals (bsum b)).toArray) ∧ Ext w w') := by
  have hm := hf.blen
  subst hm
  obtain ⟨A, c, rfl, _⟩ := hf.form
  exact rsum_any A c b w hf hb

end Go.Proofs.YtgodliookpgliaaDoor
