/- Several texts in one: RefC3, RefD3, RefF3, Seq3, Wk11, Tab, Wk12, Wk13, Seq4, Wk14. -/
import Derived.Test.YtmjgjopbeokajaaDoorProg
import Derived.Test.YtmjgjopbeokajaaDoorRefB3
import Derived.KernelRfl
import Derived.Test.YtmjgjopbeokajaaDoorBunA
import Derived.Test.YtmjgjopbeokajaaDoorBunB
import Derived.Test.YtmjgjopbeokajaaDoorBunD
import Derived.Scope
import Derived.Lib.MinMax
namespace Go.Proofs.YtmjgjopbeokajaaDoor
open Go.RowKit

variable {S S' : Nat → Prop}

theorem set_or0 (m : List UInt32) (k : Nat) : m.set k (m.getD k 0 ||| 0) = m := by
  rw [UInt32.or_zero]
  apply List.ext_getElem (by simp)
  intro i h1 h2
  rw [List.getElem_set]
  split
  · rename_i h; subst h; rw [List.getD_eq_getElem?_getD, List.getElem?_eq_getElem h2, Option.getD_some]
  · rfl
theorem wordsTo_pad (b : List UInt8) (z : Nat) : ∀ k, wordsTo (b ++ List.replicate z 0) k = wordsTo b k
  | 0 => rfl
  | k + 1 => by
    rw [show wordsTo (b ++ List.replicate z 0) (k + 1) = word (b ++ List.replicate z 0) (wordsTo (b ++ List.replicate z 0) k) k from foldl_range _ _ _, show wordsTo b (k + 1) = word b (wordsTo b k) k from foldl_range _ _ _, wordsTo_pad b z k]
    unfold word
    congr 3
    rw [List.getD_eq_getElem?_getD, List.getD_eq_getElem?_getD, List.getElem?_append]
    split
    · rfl
    · rename_i h
      rw [List.getElem?_eq_none (by omega : b.length ≤ k), List.getElem?_replicate]
      split <;> rfl
theorem wordsTo_more (b : List UInt8) (n : Nat) (h : b.length ≤ n) : ∀ j, wordsTo b (n + j) = wordsTo b n
  | 0 => rfl
  | j + 1 => by
    rw [← Nat.add_assoc, show wordsTo b (n + j + 1) = word b (wordsTo b (n + j)) (n + j) from foldl_range _ _ _, wordsTo_more b n h j]
    unfold word
    rw [List.getD_eq_getElem?_getD, List.getElem?_eq_none (by omega : b.length ≤ n + j), Option.getD_none]
    have : (UInt8.toUInt32 0 <<< UInt32.ofNat (8 * ((n + j) % 4))) = 0 := by
      rw [show UInt8.toUInt32 0 = 0 from rfl]; exact UInt32.zero_shiftLeft
    rw [this]
    exact set_or0 _ _
theorem words_pad (b : List UInt8) (z : Nat) : words (b ++ List.replicate z 0) = words b := by
  show wordsTo (b ++ List.replicate z 0) (b ++ List.replicate z 0).length = wordsTo b b.length
  rw [wordsTo_pad, List.length_append, wordsTo_more b _ (Nat.le_refl _)]
theorem absorb_pad (h : List UInt32) (b : List UInt8) (z : Nat) (n : UInt64) (last : Bool) : absorb h (b ++ List.replicate z 0) n last = absorb h b n last := by
  unfold absorb; rw [words_pad]
/-- one block of the filled bytes, not the last -/
theorem sum_step {f b : List UInt8} {z n : Nat} {h h0 : List UInt32} (hf : f = b ++ List.replicate z 0) (hn : n + 64 < f.length) (hT : f.length ≤ 64 ∨ f.length ≤ (b.length + 63) / 64 * 64) (h64 : f.length % 64 = 0) (hn64 : n % 64 = 0) (e : feed h n (b.drop n) = feed h0 0 b) :
    feed (absorb h ((f.drop n).take 64) (UInt64.ofNat (n + 64)) false) (n + 64) (b.drop (n + 64)) = feed h0 0 b := by
  have hb : n + 64 < b.length := by omega
  have h1 : (f.drop n).take 64 = (b.drop n).take 64 := by
    rw [hf, List.drop_append_of_le_length (by omega), List.take_append_of_le_length (by rw [List.length_drop]; omega)]
  rw [h1, ← e, show feed h n (b.drop n) = feed (absorb h ((b.drop n).take 64) (UInt64.ofNat (n + 64)) false) (n + 64) ((b.drop n).drop 64) from by rw [feed, if_neg (by rw [List.length_drop]; omega)], List.drop_drop]
theorem sum_last {f b : List UInt8} {z n : Nat} {h h0 : List UInt32} (hf : f = b ++ List.replicate z 0) (hn : n + 64 = f.length) (hT : f.length ≤ 64 ∨ f.length ≤ (b.length + 63) / 64 * 64) (hn64 : n % 64 = 0) (e : feed h n (b.drop n) = feed h0 0 b) :
    absorb h ((f.drop n).take 64) (UInt64.ofNat b.length) true = feed h0 0 b := by
  have hl : f.length = b.length + z := by rw [hf]; simp
  have hb : n ≤ b.length := by omega
  have h1 : (f.drop n).take 64 = b.drop n ++ List.replicate z 0 := by
    rw [hf, List.drop_append_of_le_length hb, List.take_of_length_le (by simp; omega)]
  rw [h1, absorb_pad, ← e, feed, if_pos (by rw [List.length_drop]; omega), List.length_drop, show n + (b.length - n) = b.length by omega]
/-- what the state is behind n bytes of the filled ones -/
def SumInv (b f : List UInt8) (n : Nat) (h : List UInt32) : Prop := (n < f.length ∧ feed h n (b.drop n) = feed first 0 b) ∨ (n = f.length ∧ h = feed first 0 b)
theorem SumInv.start {b f : List UInt8} (h0 : 0 < f.length) : SumInv b f 0 first := .inl ⟨h0, rfl⟩
theorem SumInv.next {f b : List UInt8} {z n : Nat} {h : List UInt32} {N : UInt64} {L : Bool} (hf : f = b ++ List.replicate z 0) (hn : n < f.length) (hT : f.length ≤ 64 ∨ f.length ≤ (b.length + 63) / 64 * 64) (h64 : f.length % 64 = 0) (hn64 : n % 64 = 0) (e : SumInv b f n h)
    (hL : L = decide (n + 64 = f.length)) (hN : N = if n + 64 = f.length then UInt64.ofNat b.length else UInt64.ofNat (n + 64)) : SumInv b f (n + 64) (absorb h ((f.drop n).take 64) N L) := by
  rcases e with ⟨_, e⟩ | ⟨h1, _⟩
  · subst hL hN
    by_cases hl : n + 64 = f.length
    · rw [if_pos hl, decide_eq_true hl]
      exact .inr ⟨hl, sum_last hf hl hT hn64 e⟩
    · rw [if_neg hl, decide_eq_false hl]
      exact .inl ⟨by omega, sum_step hf (by omega) hT h64 hn64 e⟩
  · omega
theorem SumInv.done {b f : List UInt8} {n : Nat} {h : List UInt32} (e : SumInv b f n h) (hn : f.length ≤ n) : h = feed first 0 b := by
  rcases e with ⟨h1, _⟩ | ⟨_, h1⟩
  · omega
  · exact h1

set_option maxRecDepth 100000 in
set_option maxHeartbeats 1000000 in
theorem rsum_any (A : Option Addr) (c : Nat) (b : List UInt8) (w : World) (hf : Fl S w 1 (.slice A b.length c) b.length (byteVals b)) (hb : b.length ≤ 70368744177664) :
    Calls Tryd.prog 63 #[.slice A b.length c] w (fun e w' => e = .returned (.agg (byteVals (bsum b)).toArray) ∧ Ext w w') := by
  have hc : Fl (Clip S w) w 1 (.slice A b.length c) b.length (byteVals b) := hf.clip
  have hcc := (Fl.cel hc).2.1
  refine calls_enter (l := [(.slice A b.length c)]) Tryd.func63 rfl rfl rfl (fun aA hF => ?_)
  refine wp_seq_k (fun K1 hK1 => ?_)
  refine wp_region_lit ?_
  refine wpl_op (i := 0) rfl (o_new (fun g => (.pointer (some ⟨g, 0, none⟩))) (byteVals (List.replicate 32 0)) 37 hF rfl rfl rfl rfl (by kernel_rfl) ?_)
  intro g2 w3 a8 F9 z6 z7 b4 hx5; clear hF
  refine wpList_nil ?_
  refine hK1 _ _ ?_
  clear hK1
  refine wp_seq_k (fun K10 hK10 => ?_)
  refine wp_region_lit ?_
  refine wpl_op (i := 0) rfl (o_call F9 rfl rfl rfl rfl (rn_call (args0 ) rfl (by kernel_rfl)) (rinitial_any _) ?_)
  rintro _ w11 ⟨rfl, hx12⟩
  refine ⟨_, rfl, ?_⟩; intro a13 F14; clear F9; have z15 := hx12.size
  refine wpl_op (i := 1) rfl (o_new (fun g => (.pointer (some ⟨g, 0, none⟩))) (u32Vals (List.replicate 8 0)) 80 F14 rfl rfl rfl rfl (by kernel_rfl) ?_)
  intro g16 w17 a22 F23 z20 z21 b18 hx19; clear F14
  refine wpl_op (i := 2) rfl (o_store (cells := (u32Vals iv)) F23 rfl rfl rfl rfl (F23.get rfl) (F23.get rfl) b18 (inf80.trans (congrArg some (u32Vals_len iv_len).symm)) ((u32Vals_len (show List.length (List.replicate 8 0) = _ from List.length_replicate)).trans (u32Vals_len iv_len).symm) (u32Vals_one _) ?_)
  intro w24 b25 hg26; have z27 := hg26.size
  refine wpList_nil ?_
  refine hK10 _ _ ?_
  clear hK10
  refine wp_seq_k (fun K28 hK28 => ?_)
  refine wp_region_lit ?_
  refine qv 0 (.pointer (some ⟨g16, 0 + 0, none⟩)) F23 rfl (rn_indexArr Tryd.underlying80 inf79 (F23.get rfl) rfl (by omega : (0 : Int) ≤ 0) (by omega : (0 : Int) < ((8 : Nat) : Int))) fun _ F30 => ?_; clear F23
  refine qv 1 (.int .u32 ((iv.getD 0 0).toNat : Nat)) F30 rfl (rn_load (isAgg_no Tryd.underlying79 rfl) (F30.get rfl) (blk_word b25 (by omega) (by have := (show List.length iv = _ from iv_len); omega))) fun _ F32 => ?_; clear F30
  refine qv 2 (.int .u32 (((iv.getD 0 0) ^^^ (16842784 : UInt32)).toNat : Nat)) F32 rfl (rn_xor32 (a := (iv.getD 0 0)) (b := (16842784 : UInt32)) (F32.get rfl) rfl) fun _ F34 => ?_; clear F32
  refine qv 3 (.pointer (some ⟨g16, 0 + 0, none⟩)) F34 rfl (rn_indexArr Tryd.underlying80 inf79 (F34.get rfl) rfl (by omega : (0 : Int) ≤ 0) (by omega : (0 : Int) < ((8 : Nat) : Int))) fun _ F36 => ?_; clear F34
  refine wpl_op (i := 4) rfl (o_store1 (new := (u32Vals (iv.set 0 ((iv.getD 0 0) ^^^ (16842784 : UInt32))))) F36 rfl rfl rfl rfl (F36.get rfl) (F36.get rfl) b25 inf79 (by rw [u32Vals_len iv_len]; omega) rfl (u32Vals_set (by omega)) ?_)
  intro w37 b38 hg39; have z40 := hg39.size
  refine wpList_nil ?_
  refine hK28 _ _ ?_
  clear hK28
  have F41 := (((F36.nil.c F36 3 rfl).c F36 2 rfl).c F36 0 rfl)
  clear F36
  refine wp_seq_k (fun K42 hK42 => ?_)
  refine wp_region_lit ?_
  refine wpl_op (i := 0) rfl (o_new (fun g => (.slice (some ⟨g, 0, none⟩) 0 0)) [] 5 F41 rfl rfl rfl rfl (rn_buildSlice (parts0 ) (by kernel_rfl)) ?_)
  intro g43 w44 a49 F50 z47 z48 b45 hx46; clear F41
  refine qv 1 (.slice A b.length c) F50 rfl (rn_move (F50.get rfl)) fun _ F52 => ?_; clear F50
  have d54 := (hc.pres (((((((Pres.refl w).ext hx5).ext hx12).ext hx19).grownN hg26 (fun h => by simp only [Clip] at h; omega)).grownN hg39 (fun h => by simp only [Clip] at h; omega)).ext hx46))
  have hf62 := (own_blk0 (k := 1) b45)
  refine wpl_op (i := 2) rfl (o_appA (zs := byteVals b) El22 F52 rfl rfl rfl rfl rfl (F52.get rfl) (F52.get rfl) hf62 (Fl.cel d54).2.2 (by omega) (by omega) (by omega) (List.nil_append _) ?_)
  intro A55 c56 w57 a63 F64 r58 hg59 z60 z61; clear F52; have z65 := hg59.size
  refine qv 3 (.slice A55 (0 + b.length) c56) F64 rfl (rn_assign (F64.get rfl)) fun _ F67 => ?_; clear F64
  refine wpList_nil ?_
  refine hK42 _ _ ?_
  clear hK42
  refine wp_seq_k (fun K68 hK68 => ?_)
  refine wp_block ?_
  have b72 := (grown_blk hf62 hg59 (b38.ext hx46) (by decide))
  obtain ⟨v69, e70⟩ : ∃ z, z = iv.set 0 ((iv.getD 0 0) ^^^ (16842784 : UInt32)) := ⟨_, rfl⟩
  have hl71 : v69.length = 8 := (congrArg List.length e70).trans (show List.length (iv.set 0 ((iv.getD 0 0) ^^^ (16842784 : UInt32))) = _ from List.length_set.trans iv_len)
  rw [← e70] at b72
  have b73 := (grown_blk hf62 hg59 (((((b4.ext hx12).ext hx19).grownN hg26 (by omega)).grownN hg39 (by omega)).ext hx46) (by decide))
  refine wp_loop (fun a' W => ∃ (Af : Option Addr) (nf : Nat) (cf : Nat) (f : List UInt8) (z : Nat), Sl 74 [(0, (.slice A b.length c)), (2, (.pointer (some ⟨g2, 0, none⟩))), (3, (.pointer (some ⟨g16, 0, none⟩))), (4, (.slice Af nf cf))] a' ∧ f = b ++ List.replicate z 0 ∧ (nf ≤ 64 ∨ nf ≤ (b.length + 63) / 64 * 64) ∧ f.length = nf ∧ Ext w W ∧ Blk W g2 37 (byteVals (List.replicate 32 0)) ∧ Blk W g16 80 (u32Vals v69) ∧ W.ownsRow g43 5 1 (.slice Af nf cf) nf (byteVals f) ∧ g43 ≤ W.heap.size ∧ w57.heap.size ≤ W.heap.size) (fun a' _ => (sliceLen (a'.eval (.tmp 4)) + 63) / 64 * 64 - sliceLen (a'.eval (.tmp 4)) + 64 * (1 - sliceLen (a'.eval (.tmp 4)))) ⟨A55, 0 + b.length, c56, b, 0, ((((F67.nil.cons (q_get F67 (t := 4) rfl (by first | rfl | (congr 1; omega) | (congr 1; done)))).cons (q_get F67 (t := 3) rfl rfl)).cons (q_get F67 (t := 2) rfl rfl)).cons (q_get F67 (t := 0) rfl rfl)), (by simp), (by omega), (by omega), (ext_row (((((((Ext.refl w).trans hx5).trans hx12).trans hx19).grownN hg26 (by omega)).grownN hg39 (by omega)).trans hx46) hg59 hf62 (by omega)), b73, b72, r58, (by omega), (Nat.le_refl _)⟩ ?_
  clear F67
  rintro a74 w75 ⟨Af, nf, cf, f, z, F76, hp78, hp79, hp80, hx77, b81, b82, r83, hf84, hf85⟩
  have hL86 := F76
  have z87 := hx77.size
  have z88 := b81.lt
  have z89 := b82.lt
  have z90 := own_form0 r83
  refine wp_seq_k (fun K91 hK91 => ?_)
  refine wp_seq_k (fun K92 hK92 => ?_)
  refine wp_region_lit ?_
  refine qv 0 (.slice Af nf cf) F76 rfl (rn_move (F76.get rfl)) fun _ F94 => ?_; clear F76
  refine qv 1 (.int .i64 (nf : Nat)) F94 rfl (rn_len_slice Tryd.underlying22 (F94.get rfl)) fun _ F96 => ?_; clear F94
  refine qv 2 (.bool (decide (((nf : Nat) : Int) = (0 : Int)))) F96 rfl (rn_eql (F96.get rfl) rfl) fun _ F98 => ?_; clear F96
  refine qv 3 (.bool (decide (((nf : Nat) : Int) = (0 : Int)))) F98 rfl (rn_move (F98.get rfl)) fun _ F100 => ?_; clear F98
  by_cases hc101 : ((nf : Nat) : Int) = (0 : Int)
  · skip
    refine qu 4 F100 (decide_eq_true hc101) fun _ F103 => ?_; clear F100
    refine qu 5 F103 (decide_eq_true hc101) fun _ F105 => ?_; clear F103
    refine qu 6 F105 (decide_eq_true hc101) fun _ F107 => ?_; clear F105
    refine qu 7 F107 (decide_eq_true hc101) fun _ F109 => ?_; clear F107
    refine qv 8 (.bool true) F109 rfl (rn_pickT (c_true F109 rfl (decide_eq_true hc101)) rfl) fun _ F111 => ?_; clear F109
    refine wpList_nil ?_
    refine hK92 _ _ ?_
    clear hK92
    have F112 := (((((F111.nil.c F111 26 rfl).c F111 4 rfl).c F111 3 rfl).c F111 2 rfl).c F111 0 rfl)
    clear F111
    refine wp_cond_true (c_true F112 rfl rfl) ?_
    refine wp_skip ?_
    refine hK91 _ _ ?_
    clear hK91
    refine wp_block ?_
    refine wp_region_lit ?_
    refine qv 0 (.slice Af nf cf) F112 rfl (rn_move (F112.get rfl)) fun _ F114 => ?_; clear F112
    refine wpl_op (i := 1) rfl (o_new (fun g => (.slice (some ⟨g, 0, none⟩) 1 1)) [(.int .u8 0)] 5 F114 rfl rfl rfl rfl (rn_buildSlice (parts1 rfl) (by kernel_rfl)) ?_)
    intro g115 w116 a121 F122 z119 z120 b117 hx118; clear F114
    have r123 := (own_ext r83 hx118)
    have hf131 := r123
    refine wpl_op (i := 2) rfl (o_appA (zs := byteVals (f ++ ([(0 : UInt8)]))) El22 F122 rfl rfl rfl rfl rfl (F122.get rfl) (F122.get rfl) hf131 (Fl.cel (Fl.blk (S := fun b => b = g115) (k := 1) (n := 1) (c := 1) (cs := byteVals [(0 : UInt8)]) b117 rfl (byteVals_one _) (by omega) rfl)).2.2 (by omega) (by omega) (by omega) (byteVals_app _ _) ?_)
    intro A124 c125 w126 a132 F133 r127 hg128 z129 z130; clear F122; have z134 := hg128.size
    refine qv 3 (.slice A124 (nf + 1) c125) F133 rfl (rn_assign (F133.get rfl)) fun _ F136 => ?_; clear F133
    refine wpList_nil ?_
    have b137 := (grown_blk hf131 hg128 (b81.ext hx118) (by decide))
    have b138 := (grown_blk hf131 hg128 (b82.ext hx118) (by decide))
    refine ⟨⟨A124, nf + 1, c125, f ++ ([(0 : UInt8)]), (z + 1), ((((F136.nil.cons (q_get F136 (t := 4) rfl (by first | rfl | (congr 1; omega) | (congr 1; done)))).cons (q_get F136 (t := 3) rfl rfl)).cons (q_get F136 (t := 2) rfl rfl)).cons (q_get F136 (t := 0) rfl rfl)), (by rw [hp78, List.append_assoc, List.replicate_succ']), (by omega), (by rw [List.length_append]; show f.length + 1 = nf + 1; omega), (ext_row (((Ext.refl w).trans hx77).trans hx118) hg128 hf131 (by omega)), b137, b138, r127, (by omega), (by omega)⟩, ?_⟩
    rw [F136.get (t := 4) rfl, hL86.get (t := 4) rfl]; simp only [sliceLen]; omega
  · skip
    refine qg 4 (.slice Af nf cf) F100 (decide_eq_false hc101) (rn_move (F100.get rfl)) fun _ F140 => ?_; clear F100
    refine qg 5 (.int .i64 (nf : Nat)) F140 (decide_eq_false hc101) (rn_len_slice Tryd.underlying22 (F140.get rfl)) fun _ F142 => ?_; clear F140
    refine qg 6 (.int .i64 (nf % 64 : Nat)) F142 (decide_eq_false hc101) (rn_remN (a := nf) (b := 64) (F142.get rfl) rfl (by omega)) fun _ F144 => ?_; clear F142
    refine qg 7 (.bool (decide (((nf % 64 : Nat) : Int) ≠ (0 : Int)))) F144 (decide_eq_false hc101) (rn_neq (F144.get rfl) rfl) fun _ F146 => ?_; clear F144
    refine qv 8 (.bool (decide (((nf % 64 : Nat) : Int) ≠ (0 : Int)))) F146 rfl (rn_pickF (c_false F146 rfl (decide_eq_false hc101)) (F146.get rfl)) fun _ F148 => ?_; clear F146
    refine wpList_nil ?_
    refine hK92 _ _ ?_
    clear hK92
    have F149 := (((((F148.nil.c F148 26 rfl).c F148 4 rfl).c F148 3 rfl).c F148 2 rfl).c F148 0 rfl)
    clear F148
    by_cases hc150 : ((nf % 64 : Nat) : Int) ≠ (0 : Int)
    · skip
      refine wp_cond_true (c_true F149 rfl (decide_eq_true hc150)) ?_
      refine wp_skip ?_
      refine hK91 _ _ ?_
      clear hK91
      refine wp_block ?_
      refine wp_region_lit ?_
      refine qv 0 (.slice Af nf cf) F149 rfl (rn_move (F149.get rfl)) fun _ F152 => ?_; clear F149
      refine wpl_op (i := 1) rfl (o_new (fun g => (.slice (some ⟨g, 0, none⟩) 1 1)) [(.int .u8 0)] 5 F152 rfl rfl rfl rfl (rn_buildSlice (parts1 rfl) (by kernel_rfl)) ?_)
      intro g153 w154 a159 F160 z157 z158 b155 hx156; clear F152
      have r161 := (own_ext r83 hx156)
      have hf169 := r161
      refine wpl_op (i := 2) rfl (o_appA (zs := byteVals (f ++ ([(0 : UInt8)]))) El22 F160 rfl rfl rfl rfl rfl (F160.get rfl) (F160.get rfl) hf169 (Fl.cel (Fl.blk (S := fun b => b = g153) (k := 1) (n := 1) (c := 1) (cs := byteVals [(0 : UInt8)]) b155 rfl (byteVals_one _) (by omega) rfl)).2.2 (by omega) (by omega) (by omega) (byteVals_app _ _) ?_)
      intro A162 c163 w164 a170 F171 r165 hg166 z167 z168; clear F160; have z172 := hg166.size
      refine qv 3 (.slice A162 (nf + 1) c163) F171 rfl (rn_assign (F171.get rfl)) fun _ F174 => ?_; clear F171
      refine wpList_nil ?_
      have b175 := (grown_blk hf169 hg166 (b81.ext hx156) (by decide))
      have b176 := (grown_blk hf169 hg166 (b82.ext hx156) (by decide))
      refine ⟨⟨A162, nf + 1, c163, f ++ ([(0 : UInt8)]), (z + 1), ((((F174.nil.cons (q_get F174 (t := 4) rfl (by first | rfl | (congr 1; omega) | (congr 1; done)))).cons (q_get F174 (t := 3) rfl rfl)).cons (q_get F174 (t := 2) rfl rfl)).cons (q_get F174 (t := 0) rfl rfl)), (by rw [hp78, List.append_assoc, List.replicate_succ']), (by omega), (by rw [List.length_append]; show f.length + 1 = nf + 1; omega), (ext_row (((Ext.refl w).trans hx77).trans hx156) hg166 hf169 (by omega)), b175, b176, r165, (by omega), (by omega)⟩, ?_⟩
      rw [F174.get (t := 4) rfl, hL86.get (t := 4) rfl]; simp only [sliceLen]; omega
    · skip
      refine wp_cond_false (c_false F149 rfl (decide_eq_false hc150)) ?_
      refine wp_exit ?_
      refine exit_then ?_
      refine exit_then ?_
      refine exit_here ?_
      refine hK68 _ _ ?_
      clear hK68
      refine wp_seq_k (fun K177 hK177 => ?_)
      refine wp_seq_k (fun K178 hK178 => ?_)
      refine wp_region_lit ?_
      refine qv 0 (.int .i64 0) F149 rfl (rn_assign rfl) fun _ F180 => ?_; clear F149
      refine wpList_nil ?_
      refine hK178 _ _ ?_
      clear hK178
      refine wp_block ?_
      have hfl := hp80
      have h064 : nf % 64 = 0 ∧ 0 < nf := by omega
      refine wp_loop (fun a' W => ∃ (n : Nat) (hh : List UInt32), Sl 74 [(0, (.slice A b.length c)), (2, (.pointer (some ⟨g2, 0, none⟩))), (3, (.pointer (some ⟨g16, 0, none⟩))), (4, (.slice Af nf cf)), (26, (.bool (decide (((nf % 64 : Nat) : Int) ≠ (0 : Int))))), (5, (.int .i64 (n : Nat)))] a' ∧ n ≤ nf ∧ n % 64 = 0 ∧ SumInv b f n hh ∧ hh.length = 8 ∧ Ext w W ∧ Blk W g2 37 (byteVals (List.replicate 32 0)) ∧ Blk W g16 80 (u32Vals hh) ∧ W.ownsRow g43 5 1 (.slice Af nf cf) nf (byteVals f) ∧ g43 ≤ W.heap.size ∧ w75.heap.size ≤ W.heap.size) (fun a' _ => nf - (intOf (a'.eval (.tmp 5))).toNat) ⟨0, v69, ((((((F180.nil.cons (q_get F180 (t := 5) rfl (by first | rfl | (congr 1; omega) | (congr 1; done)))).cons (q_get F180 (t := 26) rfl rfl)).cons (q_get F180 (t := 4) rfl rfl)).cons (q_get F180 (t := 3) rfl rfl)).cons (q_get F180 (t := 2) rfl rfl)).cons (q_get F180 (t := 0) rfl rfl)), (by omega), (by omega), (by rw [e70]; exact SumInv.start (by omega)), hl71, ((Ext.refl w).trans hx77), b81, b82, r83, (by omega), (Nat.le_refl _)⟩ ?_
      clear F180
      rintro a181 w182 ⟨n, hh, F183, hp185, hp186, hp187, hp188, hx184, b189, b190, r191, hf192, hf193⟩
      have hL194 := F183
      have z195 := hx184.size
      have z196 := b189.lt
      have z197 := b190.lt
      have z198 := own_form0 r191
      have hhl : hh.length = 8 := hp188
      refine wp_seq_k (fun K199 hK199 => ?_)
      refine wp_seq_k (fun K200 hK200 => ?_)
      refine wp_region_lit ?_
      refine qv 0 (.int .i64 (n : Nat)) F183 rfl (rn_move (F183.get rfl)) fun _ F202 => ?_; clear F183
      refine qv 1 (.slice Af nf cf) F202 rfl (rn_move (F202.get rfl)) fun _ F204 => ?_; clear F202
      refine qv 2 (.int .i64 (nf : Nat)) F204 rfl (rn_len_slice Tryd.underlying22 (F204.get rfl)) fun _ F206 => ?_; clear F204
      refine qv 3 (.bool (decide (((n : Nat) : Int) < ((nf : Nat) : Int)))) F206 rfl (rn_lss (F206.get rfl) (F206.get rfl)) fun _ F208 => ?_; clear F206
      refine wpList_nil ?_
      refine hK200 _ _ ?_
      clear hK200
      by_cases hc209 : ((n : Nat) : Int) < ((nf : Nat) : Int)
      · skip
        refine wp_cond_true (c_true F208 rfl (decide_eq_true hc209)) ?_
        refine wp_skip ?_
        refine hK199 _ _ ?_
        clear hK199
        refine wp_seq_k (fun K210 hK210 => ?_)
        refine wp_block ?_
        refine wp_seq_k (fun K211 hK211 => ?_)
        refine wp_region_lit ?_
        refine qv 0 (.int .i64 (n : Nat)) F208 rfl (rn_move (F208.get rfl)) fun _ F213 => ?_; clear F208
        refine qv 1 (.int .i64 (n + 64 : Nat)) F213 rfl (rn_addN (a := n) (b := 64) (F213.get rfl) rfl (by omega)) fun _ F215 => ?_; clear F213
        refine qv 2 (.slice Af nf cf) F215 rfl (rn_move (F215.get rfl)) fun _ F217 => ?_; clear F215
        refine qv 3 (.int .i64 (nf : Nat)) F217 rfl (rn_len_slice Tryd.underlying22 (F217.get rfl)) fun _ F219 => ?_; clear F217
        refine qv 4 (.bool (decide (((n + 64 : Nat) : Int) = ((nf : Nat) : Int)))) F219 rfl (rn_eql (F219.get rfl) (F219.get rfl)) fun _ F221 => ?_; clear F219
        refine qv 5 (.bool (decide (((n + 64 : Nat) : Int) = ((nf : Nat) : Int)))) F221 rfl (rn_assign (F221.get rfl)) fun _ F223 => ?_; clear F221
        refine wpList_nil ?_
        refine hK211 _ _ ?_
        clear hK211
        have F224 := ((((((((F223.nil.c F223 6 rfl).c F223 33 rfl).c F223 5 rfl).c F223 26 rfl).c F223 4 rfl).c F223 3 rfl).c F223 2 rfl).c F223 0 rfl)
        clear F223
        refine wp_seq_k (fun K225 hK225 => ?_)
        refine wp_region_lit ?_
        refine qv 0 (.int .i64 (n : Nat)) F224 rfl (rn_move (F224.get rfl)) fun _ F227 => ?_; clear F224
        refine qv 1 (.int .i64 (n + 64 : Nat)) F227 rfl (rn_addN (a := n) (b := 64) (F227.get rfl) rfl (by omega)) fun _ F229 => ?_; clear F227
        refine qv 2 (.int .u64 ((UInt64.ofNat (n + 64)).toNat : Nat)) F229 rfl (rn_convW Tryd.underlying3 Tryd.underlying81 (F229.get rfl) (cvi_64 (n + 64) (by omega))) fun _ F231 => ?_; clear F229
        refine qv 3 (.int .u64 ((UInt64.ofNat (n + 64)).toNat : Nat)) F231 rfl (rn_assign (F231.get rfl)) fun _ F233 => ?_; clear F231
        refine wpList_nil ?_
        refine hK225 _ _ ?_
        clear hK225
        refine wp_seq_k (fun K234 hK234 => ?_)
        refine wp_seq_k (fun K235 hK235 => ?_)
        refine wp_region_lit ?_
        refine qv 0 (.bool (decide (((n + 64 : Nat) : Int) = ((nf : Nat) : Int)))) F233 rfl (rn_move (F233.get rfl)) fun _ F237 => ?_; clear F233
        refine wpList_nil ?_
        refine hK235 _ _ ?_
        clear hK235
        by_cases hc238 : ((n + 64 : Nat) : Int) = ((nf : Nat) : Int)
        · skip
          refine wp_cond_true (c_true F237 rfl (decide_eq_true hc238)) ?_
          refine wp_region_lit ?_
          refine qv 0 (.slice A b.length c) F237 rfl (rn_move (F237.get rfl)) fun _ F240 => ?_; clear F237
          refine qv 1 (.int .i64 (b.length : Nat)) F240 rfl (rn_len_slice Tryd.underlying22 (F240.get rfl)) fun _ F242 => ?_; clear F240
          refine qv 2 (.int .u64 ((UInt64.ofNat b.length).toNat : Nat)) F242 rfl (rn_convW Tryd.underlying3 Tryd.underlying81 (F242.get rfl) (cvi_64 b.length (by omega))) fun _ F244 => ?_; clear F242
          refine qv 3 (.int .u64 ((UInt64.ofNat b.length).toNat : Nat)) F244 rfl (rn_assign (F244.get rfl)) fun _ F246 => ?_; clear F244
          refine wpList_nil ?_
          refine hK234 _ _ ?_
          clear hK234
          have F247 := ((((((((((F246.nil.c F246 44 rfl).c F246 7 rfl).c F246 6 rfl).c F246 33 rfl).c F246 5 rfl).c F246 26 rfl).c F246 4 rfl).c F246 3 rfl).c F246 2 rfl).c F246 0 rfl)
          clear F246
          have hx249 : ∃ W, w182.drew = W ∧ Ext w182 W := ⟨_, rfl, (Ext.refl _).drew⟩
          obtain ⟨w248, e250, hx249⟩ := hx249
          have z251 := hx249.size
          refine any_start (fun W => Ext w248 W ∧ Blk W g16 80 (u32Vals hh)) (fun i => i == 9) 10 #[false, false, false, false, false, false, false, false, false, false] rfl rfl rfl ?_
          rw [e250]; clear e250
          have b253 := (b190.ext hx249)
          have hS252 : Ext w248 w248 ∧ Blk w248 g16 80 (u32Vals hh) := ⟨(Ext.refl w248), b253⟩
          refine qs 0 (.agg (u32Vals hh).toArray) F247 rfl rfl hS252 (fun W hW => (rn_loadBlk (F247.get rfl) hW.2 Tryd.underlying80 rfl (inf80.trans (congrArg some (u32Vals_len hhl).symm)))) fun _ F255 => ?_; clear F247
          refine qp 1 (.slice Af nf cf) F255 rfl rfl (fun W => (rn_move (F255.get rfl))) fun _ F257 => ?_; clear F255
          refine qp 2 (.int .i64 (n : Nat)) F257 rfl rfl (fun W => (rn_move (F257.get rfl))) fun _ F259 => ?_; clear F257
          refine qp 3 (.int .i64 (n : Nat)) F259 rfl rfl (fun W => (rn_move (F259.get rfl))) fun _ F261 => ?_; clear F259
          refine qp 4 (.int .i64 (n + 64 : Nat)) F261 rfl rfl (fun W => (rn_addN (a := n) (b := 64) (F261.get rfl) rfl (by omega))) fun _ F263 => ?_; clear F261
          have r267 := (own_ext r191 hx249)
          have hf268 := (Fl.own (S := fun b => g43 ≤ b) r267 (fun b hb => hb) (byteVals_one _))
          obtain ⟨b264, o265, hA266, -⟩ := Fl.at hf268 (by omega)
          refine qp 5 (.slice (some ⟨b264, o265 + n * 1, none⟩) 64 (cf - n)) F263 rfl rfl (fun W => (rn_sliceLH (l := n) (h := (n + 64)) Tryd.underlying22 inf5 ((F263.get rfl).trans (by rw [hA266])) (F263.get rfl) (F263.get rfl) (by omega) (by omega) (by omega) (by omega))) fun _ F270 => ?_; clear F263
          refine qp 6 (.int .u64 ((UInt64.ofNat b.length).toNat : Nat)) F270 rfl rfl (fun W => (rn_move (F270.get rfl))) fun _ F272 => ?_; clear F270
          refine qp 7 (.bool (decide (((n + 64 : Nat) : Int) = ((nf : Nat) : Int)))) F272 rfl rfl (fun W => (rn_move (F272.get rfl))) fun _ F274 => ?_; clear F272
          refine any_one (i := 8) (by decide +kernel) rfl ?_
          refine o_call F274 rfl rfl rfl rfl (rn_call (args4 (F274.get rfl) (F274.get rfl) (F274.get rfl) (F274.get rfl)) rfl (by kernel_rfl)) (rblock_at hh ((f.drop n).take 64) (UInt64.ofNat b.length) (decide (((n + 64 : Nat) : Int) = ((nf : Nat) : Int))) _ hhl (Fl.mid_eq (j := n) (m' := 64) hf268 hA266 (by omega) (by omega) (by simp only [byteVals_drop1, byteVals_take1]))) ?_
          rintro _ w275 ⟨rfl, hx276⟩
          refine ⟨_, rfl, ?_⟩; intro a277 F278; clear F274; have z279 := hx276.size
          have b280 := (b253.ext hx276)
          refine ⟨fun _ _ => ⟨((Ext.refl w248).trans hx276), b280⟩, ?_⟩
          refine any_one (i := 9) (by decide +kernel) rfl ?_
          refine o_store (cells := (u32Vals (absorb hh ((f.drop n).take 64) (UInt64.ofNat b.length) (decide (((n + 64 : Nat) : Int) = ((nf : Nat) : Int)))))) F278 rfl rfl rfl rfl (F278.get rfl) (F278.get rfl) b280 (inf80.trans (congrArg some (u32Vals_len (absorb_len hhl)).symm)) ((u32Vals_len hhl).trans (u32Vals_len (absorb_len hhl)).symm) (u32Vals_one _) ?_
          intro w281 b282 hg283; have z284 := hg283.size
          refine ⟨fun h => absurd h (by decide), ?_⟩
          refine any_nil (by decide +kernel) ?_
          refine hK210 _ _ ?_
          clear hK210
          have F285 := ((((((((((F278.nil.c F278 44 rfl).c F278 7 rfl).c F278 6 rfl).c F278 33 rfl).c F278 5 rfl).c F278 26 rfl).c F278 4 rfl).c F278 3 rfl).c F278 2 rfl).c F278 0 rfl)
          clear F278
          refine wp_region_lit ?_
          refine qv 0 (.int .i64 (n : Nat)) F285 rfl (rn_move (F285.get rfl)) fun _ F287 => ?_; clear F285
          refine qv 1 (.int .i64 (n + 64 : Nat)) F287 rfl (rn_addN (a := n) (b := 64) (F287.get rfl) rfl (by omega)) fun _ F289 => ?_; clear F287
          refine qv 2 (.int .i64 (n + 64 : Nat)) F289 rfl (rn_assign (F289.get rfl)) fun _ F291 => ?_; clear F289
          refine wpList_nil ?_
          obtain ⟨v292, e293⟩ : ∃ z, z = absorb hh ((f.drop n).take 64) (UInt64.ofNat b.length) (decide (((n + 64 : Nat) : Int) = ((nf : Nat) : Int))) := ⟨_, rfl⟩
          have hl294 : v292.length = 8 := (congrArg List.length e293).trans (absorb_len hhl)
          rw [← e293] at b282
          have b295 := (((b189.ext hx249).ext hx276).grownN hg283 (by omega))
          have r296 := (own_grownT (own_ext r267 hx276) b280 hg283 (by decide))
          refine ⟨⟨(n + 64), v292, ((((((F291.nil.cons (q_get F291 (t := 5) rfl (by first | rfl | (congr 1; omega) | (congr 1; done)))).cons (q_get F291 (t := 26) rfl rfl)).cons (q_get F291 (t := 4) rfl rfl)).cons (q_get F291 (t := 3) rfl rfl)).cons (q_get F291 (t := 2) rfl rfl)).cons (q_get F291 (t := 0) rfl rfl)), (by omega), (by omega), (by rw [e293]; exact SumInv.next hp78 (by omega) (by omega) (by omega) (by omega) hp187 (by simp only [decide_eq_decide]; omega) (by rw [if_pos (by omega)])), hl294, (((((Ext.refl w).trans hx184).trans hx249).trans hx276).grownN hg283 (by omega)), b295, b282, r296, (by omega), (by omega)⟩, ?_⟩
          rw [F291.get (t := 5) rfl, hL194.get (t := 5) rfl]; simp [intOf] <;> omega
        · skip
          refine wp_cond_false (c_false F237 rfl (decide_eq_false hc238)) ?_
          refine wp_skip ?_
          refine hK234 _ _ ?_
          clear hK234
          have hx298 : ∃ W, w182.drew = W ∧ Ext w182 W := ⟨_, rfl, (Ext.refl _).drew⟩
          obtain ⟨w297, e299, hx298⟩ := hx298
          have z300 := hx298.size
          refine any_start (fun W => Ext w297 W ∧ Blk W g16 80 (u32Vals hh)) (fun i => i == 9) 10 #[false, false, false, false, false, false, false, false, false, false] rfl rfl rfl ?_
          rw [e299]; clear e299
          have b302 := (b190.ext hx298)
          have hS301 : Ext w297 w297 ∧ Blk w297 g16 80 (u32Vals hh) := ⟨(Ext.refl w297), b302⟩
          refine qs 0 (.agg (u32Vals hh).toArray) F237 rfl rfl hS301 (fun W hW => (rn_loadBlk (F237.get rfl) hW.2 Tryd.underlying80 rfl (inf80.trans (congrArg some (u32Vals_len hhl).symm)))) fun _ F304 => ?_; clear F237
          refine qp 1 (.slice Af nf cf) F304 rfl rfl (fun W => (rn_move (F304.get rfl))) fun _ F306 => ?_; clear F304
          refine qp 2 (.int .i64 (n : Nat)) F306 rfl rfl (fun W => (rn_move (F306.get rfl))) fun _ F308 => ?_; clear F306
          refine qp 3 (.int .i64 (n : Nat)) F308 rfl rfl (fun W => (rn_move (F308.get rfl))) fun _ F310 => ?_; clear F308
          refine qp 4 (.int .i64 (n + 64 : Nat)) F310 rfl rfl (fun W => (rn_addN (a := n) (b := 64) (F310.get rfl) rfl (by omega))) fun _ F312 => ?_; clear F310
          have r316 := (own_ext r191 hx298)
          have hf317 := (Fl.own (S := fun b => g43 ≤ b) r316 (fun b hb => hb) (byteVals_one _))
          obtain ⟨b313, o314, hA315, -⟩ := Fl.at hf317 (by omega)
          refine qp 5 (.slice (some ⟨b313, o314 + n * 1, none⟩) 64 (cf - n)) F312 rfl rfl (fun W => (rn_sliceLH (l := n) (h := (n + 64)) Tryd.underlying22 inf5 ((F312.get rfl).trans (by rw [hA315])) (F312.get rfl) (F312.get rfl) (by omega) (by omega) (by omega) (by omega))) fun _ F319 => ?_; clear F312
          refine qp 6 (.int .u64 ((UInt64.ofNat (n + 64)).toNat : Nat)) F319 rfl rfl (fun W => (rn_move (F319.get rfl))) fun _ F321 => ?_; clear F319
          refine qp 7 (.bool (decide (((n + 64 : Nat) : Int) = ((nf : Nat) : Int)))) F321 rfl rfl (fun W => (rn_move (F321.get rfl))) fun _ F323 => ?_; clear F321
          refine any_one (i := 8) (by decide +kernel) rfl ?_
          refine o_call F323 rfl rfl rfl rfl (rn_call (args4 (F323.get rfl) (F323.get rfl) (F323.get rfl) (F323.get rfl)) rfl (by kernel_rfl)) (rblock_at hh ((f.drop n).take 64) (UInt64.ofNat (n + 64)) (decide (((n + 64 : Nat) : Int) = ((nf : Nat) : Int))) _ hhl (Fl.mid_eq (j := n) (m' := 64) hf317 hA315 (by omega) (by omega) (by simp only [byteVals_drop1, byteVals_take1]))) ?_
          rintro _ w324 ⟨rfl, hx325⟩
          refine ⟨_, rfl, ?_⟩; intro a326 F327; clear F323; have z328 := hx325.size
          have b329 := (b302.ext hx325)
          refine ⟨fun _ _ => ⟨((Ext.refl w297).trans hx325), b329⟩, ?_⟩
          refine any_one (i := 9) (by decide +kernel) rfl ?_
          refine o_store (cells := (u32Vals (absorb hh ((f.drop n).take 64) (UInt64.ofNat (n + 64)) (decide (((n + 64 : Nat) : Int) = ((nf : Nat) : Int)))))) F327 rfl rfl rfl rfl (F327.get rfl) (F327.get rfl) b329 (inf80.trans (congrArg some (u32Vals_len (absorb_len hhl)).symm)) ((u32Vals_len hhl).trans (u32Vals_len (absorb_len hhl)).symm) (u32Vals_one _) ?_
          intro w330 b331 hg332; have z333 := hg332.size
          refine ⟨fun h => absurd h (by decide), ?_⟩
          refine any_nil (by decide +kernel) ?_
          refine hK210 _ _ ?_
          clear hK210
          have F334 := ((((((((((F327.nil.c F327 44 rfl).c F327 7 rfl).c F327 6 rfl).c F327 33 rfl).c F327 5 rfl).c F327 26 rfl).c F327 4 rfl).c F327 3 rfl).c F327 2 rfl).c F327 0 rfl)
          clear F327
          refine wp_region_lit ?_
          refine qv 0 (.int .i64 (n : Nat)) F334 rfl (rn_move (F334.get rfl)) fun _ F336 => ?_; clear F334
          refine qv 1 (.int .i64 (n + 64 : Nat)) F336 rfl (rn_addN (a := n) (b := 64) (F336.get rfl) rfl (by omega)) fun _ F338 => ?_; clear F336
          refine qv 2 (.int .i64 (n + 64 : Nat)) F338 rfl (rn_assign (F338.get rfl)) fun _ F340 => ?_; clear F338
          refine wpList_nil ?_
          obtain ⟨v341, e342⟩ : ∃ z, z = absorb hh ((f.drop n).take 64) (UInt64.ofNat (n + 64)) (decide (((n + 64 : Nat) : Int) = ((nf : Nat) : Int))) := ⟨_, rfl⟩
          have hl343 : v341.length = 8 := (congrArg List.length e342).trans (absorb_len hhl)
          rw [← e342] at b331
          have b344 := (((b189.ext hx298).ext hx325).grownN hg332 (by omega))
          have r345 := (own_grownT (own_ext r316 hx325) b329 hg332 (by decide))
          refine ⟨⟨(n + 64), v341, ((((((F340.nil.cons (q_get F340 (t := 5) rfl (by first | rfl | (congr 1; omega) | (congr 1; done)))).cons (q_get F340 (t := 26) rfl rfl)).cons (q_get F340 (t := 4) rfl rfl)).cons (q_get F340 (t := 3) rfl rfl)).cons (q_get F340 (t := 2) rfl rfl)).cons (q_get F340 (t := 0) rfl rfl)), (by omega), (by omega), (by rw [e342]; exact SumInv.next hp78 (by omega) (by omega) (by omega) (by omega) hp187 (by simp only [decide_eq_decide]; omega) (by rw [if_neg (by omega)])), hl343, (((((Ext.refl w).trans hx184).trans hx298).trans hx325).grownN hg332 (by omega)), b344, b331, r345, (by omega), (by omega)⟩, ?_⟩
          rw [F340.get (t := 5) rfl, hL194.get (t := 5) rfl]; simp [intOf] <;> omega
      · skip
        refine wp_cond_false (c_false F208 rfl (decide_eq_false hc209)) ?_
        refine wp_exit ?_
        refine exit_then ?_
        refine exit_then ?_
        refine exit_here ?_
        refine hK177 _ _ ?_
        clear hK177
        refine wp_seq_k (fun K346 hK346 => ?_)
        refine wp_region_lit ?_
        refine qv 0 (.agg (byteVals (List.replicate 32 0)).toArray) F208 rfl (rn_build parts0 (by kernel_rfl)) fun _ F348 => ?_; clear F208
        refine wpl_op (i := 1) rfl (o_new (fun g => (.pointer (some ⟨g, 0, none⟩))) (byteVals (List.replicate 32 0)) 37 F348 rfl rfl rfl rfl (by kernel_rfl) ?_)
        intro g349 w350 a355 F356 z353 z354 b351 hx352; clear F348
        refine wpl_op (i := 2) rfl (o_store (cells := (byteVals (List.replicate 32 0))) F356 rfl rfl rfl rfl (F356.get rfl) (F356.get rfl) b351 (inf37.trans (congrArg some (byteVals_len (show List.length (List.replicate 32 0) = _ from List.length_replicate)).symm)) ((byteVals_len (show List.length (List.replicate 32 0) = _ from List.length_replicate)).trans (byteVals_len (show List.length (List.replicate 32 0) = _ from List.length_replicate)).symm) (byteVals_one _) ?_)
        intro w357 b358 hg359; have z360 := hg359.size
        refine wpList_nil ?_
        refine hK346 _ _ ?_
        clear hK346
        have F361 := ((((((((F356.nil.c F356 8 rfl).c F356 33 rfl).c F356 5 rfl).c F356 26 rfl).c F356 4 rfl).c F356 3 rfl).c F356 2 rfl).c F356 0 rfl)
        clear F356
        refine wp_seq_k (fun K362 hK362 => ?_)
        refine wp_seq_k (fun K363 hK363 => ?_)
        refine wp_region_lit ?_
        refine qv 0 (.int .i64 0) F361 rfl (rn_assign rfl) fun _ F365 => ?_; clear F361
        refine wpList_nil ?_
        refine hK363 _ _ ?_
        clear hK363
        refine wp_block ?_
        have hdone := SumInv.done hp187 (by omega)
        have b366 := ((b189.ext hx352).grownN hg359 (by omega))
        have b367 := ((b190.ext hx352).grownN hg359 (by omega))
        refine wp_loop (fun a' W => ∃ (k2 : Nat) (dd : List UInt8), Sl 74 [(0, (.slice A b.length c)), (2, (.pointer (some ⟨g2, 0, none⟩))), (3, (.pointer (some ⟨g16, 0, none⟩))), (4, (.slice Af nf cf)), (26, (.bool (decide (((nf % 64 : Nat) : Int) ≠ (0 : Int))))), (5, (.int .i64 (n : Nat))), (33, (.bool (decide (((n : Nat) : Int) < ((nf : Nat) : Int))))), (8, (.pointer (some ⟨g349, 0, none⟩))), (9, (.int .i64 (k2 : Nat)))] a' ∧ k2 ≤ 32 ∧ dd = outTo hh k2 ∧ Ext w W ∧ Blk W g2 37 (byteVals (List.replicate 32 0)) ∧ Blk W g16 80 (u32Vals hh) ∧ Blk W g349 37 (byteVals dd) ∧ w357.heap.size ≤ W.heap.size) (fun a' _ => 32 - (intOf (a'.eval (.tmp 9))).toNat) ⟨0, (List.replicate 32 0), (((((((((F365.nil.cons (q_get F365 (t := 9) rfl (by first | rfl | (congr 1; omega) | (congr 1; done)))).cons (q_get F365 (t := 8) rfl rfl)).cons (q_get F365 (t := 33) rfl rfl)).cons (q_get F365 (t := 5) rfl rfl)).cons (q_get F365 (t := 26) rfl rfl)).cons (q_get F365 (t := 4) rfl rfl)).cons (q_get F365 (t := 3) rfl rfl)).cons (q_get F365 (t := 2) rfl rfl)).cons (q_get F365 (t := 0) rfl rfl)), (by omega), rfl, ((((Ext.refl w).trans hx184).trans hx352).grownN hg359 (by omega)), b366, b367, b358, (Nat.le_refl _)⟩ ?_
        clear F365
        rintro a368 w369 ⟨k2, dd, F370, hp372, hp373, hx371, b374, b375, b376, hf377⟩
        have hL378 := F370
        have z379 := hx371.size
        have z380 := b374.lt
        have z381 := b375.lt
        have z382 := b376.lt
        have hdl : dd.length = 32 := by rw [hp373]; exact outTo_len (by omega)
        refine wp_seq_k (fun K383 hK383 => ?_)
        refine wp_seq_k (fun K384 hK384 => ?_)
        refine wp_region_lit ?_
        refine qv 0 (.int .i64 (k2 : Nat)) F370 rfl (rn_move (F370.get rfl)) fun _ F386 => ?_; clear F370
        refine qv 1 (.bool (decide (((k2 : Nat) : Int) < (32 : Int)))) F386 rfl (rn_lss (F386.get rfl) rfl) fun _ F388 => ?_; clear F386
        refine wpList_nil ?_
        refine hK384 _ _ ?_
        clear hK384
        by_cases hc389 : ((k2 : Nat) : Int) < (32 : Int)
        · skip
          refine wp_cond_true (c_true F388 rfl (decide_eq_true hc389)) ?_
          refine wp_skip ?_
          refine hK383 _ _ ?_
          clear hK383
          refine wp_seq_k (fun K390 hK390 => ?_)
          refine wp_block ?_
          refine wp_region_lit ?_
          refine qv 0 (.int .i64 (k2 : Nat)) F388 rfl (rn_move (F388.get rfl)) fun _ F392 => ?_; clear F388
          refine qv 1 (.int .i64 (k2 : Nat)) F392 rfl (rn_move (F392.get rfl)) fun _ F394 => ?_; clear F392
          refine qv 2 (.int .i64 (k2 / 4 : Nat)) F394 rfl (rn_quoN (a := k2) (b := 4) (F394.get rfl) rfl (by omega) (by omega)) fun _ F396 => ?_; clear F394
          refine qv 3 (.pointer (some ⟨g16, 0 + (k2 / 4), none⟩)) F396 rfl (rn_indexArr Tryd.underlying80 inf79 (F396.get rfl) (F396.get rfl) (by omega : (0 : Int) ≤ (k2 / 4 : Nat)) (by omega : ((k2 / 4 : Nat) : Int) < ((8 : Nat) : Int))) fun _ F398 => ?_; clear F396
          refine qv 4 (.int .u32 ((hh.getD (k2 / 4) 0).toNat : Nat)) F398 rfl (rn_load (isAgg_no Tryd.underlying79 rfl) (F398.get rfl) (blk_word b375 (by omega) (by have := (show List.length hh = _ from hhl); omega))) fun _ F400 => ?_; clear F398
          refine qv 5 (.int .i64 (k2 : Nat)) F400 rfl (rn_move (F400.get rfl)) fun _ F402 => ?_; clear F400
          refine qv 6 (.int .i64 (k2 % 4 : Nat)) F402 rfl (rn_remN (a := k2) (b := 4) (F402.get rfl) rfl (by omega)) fun _ F404 => ?_; clear F402
          refine qv 7 (.int .i64 (8 * (k2 % 4) : Nat)) F404 rfl (rn_mulN (a := 8) (b := k2 % 4) rfl (F404.get rfl) (by omega)) fun _ F406 => ?_; clear F404
          refine qv 8 (.int .u32 (((hh.getD (k2 / 4) 0) >>> UInt32.ofNat (8 * (k2 % 4))).toNat : Nat)) F406 rfl (rn_shr32 (a := (hh.getD (k2 / 4) 0)) (n := (8 * (k2 % 4))) (F406.get rfl) (F406.get rfl) (by omega)) fun _ F408 => ?_; clear F406
          refine qv 9 (.int .u8 ((((hh.getD (k2 / 4) 0) >>> UInt32.ofNat (8 * (k2 % 4))).toUInt8).toNat : Nat)) F408 rfl (rn_convW Tryd.underlying79 Tryd.underlying5 (F408.get rfl) (cv32_8 ((hh.getD (k2 / 4) 0) >>> UInt32.ofNat (8 * (k2 % 4))))) fun _ F410 => ?_; clear F408
          refine qv 10 (.pointer (some ⟨g349, 0 + k2, none⟩)) F410 rfl (rn_indexArr Tryd.underlying37 inf5 (F410.get rfl) (F410.get rfl) (by omega : (0 : Int) ≤ (k2 : Nat)) (by omega : ((k2 : Nat) : Int) < ((32 : Nat) : Int))) fun _ F412 => ?_; clear F410
          refine wpl_op (i := 11) rfl (o_store1 (new := (byteVals (dd.set k2 (((hh.getD (k2 / 4) 0) >>> UInt32.ofNat (8 * (k2 % 4))).toUInt8)))) F412 rfl rfl rfl rfl (F412.get rfl) (F412.get rfl) b376 inf5 (by rw [byteVals_len hdl]; omega) rfl (byteVals_set (by omega)) ?_)
          intro w413 b414 hg415; have z416 := hg415.size
          refine wpList_nil ?_
          refine hK390 _ _ ?_
          clear hK390
          have F417 := ((((((((((F412.nil.c F412 59 rfl).c F412 9 rfl).c F412 8 rfl).c F412 33 rfl).c F412 5 rfl).c F412 26 rfl).c F412 4 rfl).c F412 3 rfl).c F412 2 rfl).c F412 0 rfl)
          clear F412
          refine wp_region_lit ?_
          refine qv 0 (.int .i64 (k2 : Nat)) F417 rfl (rn_move (F417.get rfl)) fun _ F419 => ?_; clear F417
          refine qv 1 (.int .i64 (k2 + 1 : Nat)) F419 rfl (rn_addN (a := k2) (b := 1) (F419.get rfl) rfl (by omega)) fun _ F421 => ?_; clear F419
          refine qv 2 (.int .i64 (k2 + 1 : Nat)) F421 rfl (rn_assign (F421.get rfl)) fun _ F423 => ?_; clear F421
          refine wpList_nil ?_
          obtain ⟨v424, e425⟩ : ∃ z, z = dd.set k2 (((hh.getD (k2 / 4) 0) >>> UInt32.ofNat (8 * (k2 % 4))).toUInt8) := ⟨_, rfl⟩
          have hl426 : v424.length = 32 := (congrArg List.length e425).trans (show List.length (dd.set k2 (((hh.getD (k2 / 4) 0) >>> UInt32.ofNat (8 * (k2 % 4))).toUInt8)) = _ from List.length_set.trans hdl)
          rw [← e425] at b414
          have b427 := (b374.grownN hg415 (by omega))
          have b428 := (b375.grownN hg415 (by omega))
          refine ⟨⟨(k2 + 1), v424, (((((((((F423.nil.cons (q_get F423 (t := 9) rfl (by first | rfl | (congr 1; omega) | (congr 1; done)))).cons (q_get F423 (t := 8) rfl rfl)).cons (q_get F423 (t := 33) rfl rfl)).cons (q_get F423 (t := 5) rfl rfl)).cons (q_get F423 (t := 26) rfl rfl)).cons (q_get F423 (t := 4) rfl rfl)).cons (q_get F423 (t := 3) rfl rfl)).cons (q_get F423 (t := 2) rfl rfl)).cons (q_get F423 (t := 0) rfl rfl)), (by omega), (outTo_step (by omega) hp373 e425), (((Ext.refl w).trans hx371).grownN hg415 (by omega)), b427, b428, b414, (by omega)⟩, ?_⟩
          rw [F423.get (t := 9) rfl, hL378.get (t := 9) rfl]; simp [intOf] <;> omega
        · skip
          refine wp_cond_false (c_false F388 rfl (decide_eq_false hc389)) ?_
          refine wp_exit ?_
          refine exit_then ?_
          refine exit_then ?_
          refine exit_here ?_
          refine hK362 _ _ ?_
          clear hK362
          refine wp_seq_k (fun K429 hK429 => ?_)
          refine wp_region_lit ?_
          refine qv 0 (.agg (byteVals dd).toArray) F388 rfl (rn_loadBlk (F388.get rfl) b376 Tryd.underlying37 rfl (inf37.trans (congrArg some (byteVals_len hdl).symm))) fun _ F431 => ?_; clear F388
          refine wpl_op (i := 1) rfl (o_store (cells := (byteVals dd)) F431 rfl rfl rfl rfl (F431.get rfl) (F431.get rfl) b374 (inf37.trans (congrArg some (byteVals_len hdl).symm)) ((byteVals_len (show List.length (List.replicate 32 0) = _ from List.length_replicate)).trans (byteVals_len hdl).symm) (byteVals_one _) ?_)
          intro w432 b433 hg434; have z435 := hg434.size
          refine wpList_nil ?_
          refine hK429 _ _ ?_
          clear hK429
          refine wp_ret ?_
          refine retC F431 rfl rfl b433 Tryd.underlying37 rfl (inf37.trans (congrArg some (byteVals_len hdl).symm)) ?_
          have hd : dd = bsum b := by rw [hp373, show k2 = 32 by omega, outTo_all, hdone]; rfl
          exact ⟨by rw [← hd], (((Ext.refl w).trans hx371).grownN hg434 (by omega))⟩

theorem rsum_at {v : Value} {n : Nat} (b : List UInt8) (w : World) (hf : Fl S w 1 v n (byteVals b)) (hb : n ≤ 70368744177664) : Calls Tryd.prog 63 #[v] w (fun e w' => e = .returned (.agg (byteVals (bsum b)).toArray) ∧ Ext w w') := by
  have hm := hf.blen
  subst hm
  obtain ⟨A, c, rfl, _⟩ := hf.form
  exact rsum_any A c b w hf hb

end Go.Proofs.YtmjgjopbeokajaaDoor

namespace Go.Proofs.YtmjgjopbeokajaaDoor
open Go.RowKit

variable {S S' : Nat → Prop}

set_option maxRecDepth 100000 in
set_option maxHeartbeats 1000000 in
theorem rtagged_any (tag : List UInt8) (A : Option Addr) (c : Nat) (b : List UInt8) (w : World) (hf : Fl S w 1 (.slice A b.length c) b.length (byteVals b)) (ht : tag.length ≤ 70368744177664) (hb : b.length ≤ 35184372088832) :
    Calls Tryd.prog 50 #[strOf tag, .slice A b.length c] w (fun e w' => e = .returned (.agg (byteVals (tagged tag b)).toArray) ∧ Ext w w') := by
  have hc : Fl (Clip S w) w 1 (.slice A b.length c) b.length (byteVals b) := hf.clip
  have hcc := (Fl.cel hc).2.1
  refine calls_enter (l := [(strOf tag), (.slice A b.length c)]) Tryd.func50 rfl rfl rfl (fun aA hF => ?_)
  refine wp_seq_k (fun K1 hK1 => ?_)
  refine wp_region_lit ?_
  refine wpl_op (i := 0) rfl (o_new (fun g => (.pointer (some ⟨g, 0, none⟩))) (byteVals (List.replicate 32 0)) 37 hF rfl rfl rfl rfl (by kernel_rfl) ?_)
  intro g2 w3 a8 F9 z6 z7 b4 hx5; clear hF
  refine wpList_nil ?_
  refine hK1 _ _ ?_
  clear hK1
  refine wp_seq_k (fun K10 hK10 => ?_)
  refine wp_region_lit ?_
  refine qv 0 (strOf tag) F9 rfl (rn_move (F9.get rfl)) fun _ F12 => ?_; clear F9
  refine wpl_op (i := 1) rfl (o_strB (l := tag) F12 rfl rfl rfl rfl rfl (F12.get rfl) Tryd.underlying9 Tryd.underlying22 Tryd.underlying5 (by omega) ?_)
  intro g13 c14 w15 a21 F22 z18 z19 z20 hf16 hx17; clear F12
  refine wpl_op (i := 2) rfl (o_call F22 rfl rfl rfl rfl (rn_call (args1 (F22.get rfl)) rfl (by kernel_rfl)) (rsum_at (v := (.slice (some ⟨g13, 0, none⟩) tag.length c14)) (n := tag.length) tag _ hf16 (by omega)) ?_)
  rintro _ w23 ⟨rfl, hx24⟩
  refine ⟨_, rfl, ?_⟩; intro a25 F26; clear F22; have z27 := hx24.size
  refine wpl_op (i := 3) rfl (o_new (fun g => (.pointer (some ⟨g, 0, none⟩))) (byteVals (List.replicate 32 0)) 37 F26 rfl rfl rfl rfl (by kernel_rfl) ?_)
  intro g28 w29 a34 F35 z32 z33 b30 hx31; clear F26
  refine wpl_op (i := 4) rfl (o_store (cells := (byteVals (bsum tag))) F35 rfl rfl rfl rfl (F35.get rfl) (F35.get rfl) b30 (inf37.trans (congrArg some (byteVals_len (bsum_len _)).symm)) ((byteVals_len (show List.length (List.replicate 32 0) = _ from List.length_replicate)).trans (byteVals_len (bsum_len _)).symm) (byteVals_one _) ?_)
  intro w36 b37 hg38; have z39 := hg38.size
  refine wpList_nil ?_
  refine hK10 _ _ ?_
  clear hK10
  refine wp_seq_k (fun K40 hK40 => ?_)
  refine wp_region_lit ?_
  refine wpl_op (i := 0) rfl (o_new (fun g => (.slice (some ⟨g, 0, none⟩) 0 0)) [] 5 F35 rfl rfl rfl rfl (rn_buildSlice (parts0 ) (by kernel_rfl)) ?_)
  intro g41 w42 a47 F48 z45 z46 b43 hx44; clear F35
  refine qv 1 (.slice (some ⟨g28, 0, none⟩) 32 32) F48 rfl (rn_arrAll Tryd.underlying37 inf5 (F48.get rfl)) fun _ F50 => ?_; clear F48
  have b52 := (b37.ext hx44)
  have hf60 := (own_blk0 (k := 1) b43)
  refine wpl_op (i := 2) rfl (o_appA (zs := byteVals (bsum tag)) El22 F50 rfl rfl rfl rfl rfl (F50.get rfl) (F50.get rfl) hf60 (Fl.cel (Fl.blk (S := fun b => b = g28) (k := 1) (n := 32) (c := 32) b52 (by rw [byteVals_len (bsum_len _), Nat.mul_one]) (byteVals_one _) (by omega) rfl)).2.2 (by omega) (by omega) (by omega) (List.nil_append _) ?_)
  intro A53 c54 w55 a61 F62 r56 hg57 z58 z59; clear F50; have z63 := hg57.size
  refine qv 3 (.slice A b.length c) F62 rfl (rn_move (F62.get rfl)) fun _ F65 => ?_; clear F62
  have d66 := (hc.pres (Pres.row (((((((Pres.refl w).ext hx5).ext hx17).ext hx24).ext hx31).grownN hg38 (fun h => by simp only [Clip] at h; omega)).ext hx44) hg57 hf60 (fun b hb h => by simp only [Clip] at h; omega)))
  have hf74 := r56
  refine wpl_op (i := 4) rfl (o_appA (zs := byteVals ((bsum tag) ++ b)) El22 F65 rfl rfl rfl rfl rfl (F65.get rfl) (F65.get rfl) hf74 (Fl.cel d66).2.2 (by omega) (by omega) (by omega) (byteVals_app _ _) ?_)
  intro A67 c68 w69 a75 F76 r70 hg71 z72 z73; clear F65; have z77 := hg71.size
  refine wpl_op (i := 5) rfl (o_call F76 rfl rfl rfl rfl (rn_call (args1 (F76.get rfl)) rfl (by kernel_rfl)) (rsum_at (v := (.slice A67 ((0 + 32) + b.length) c68)) (n := (0 + 32) + b.length) ((bsum tag) ++ b) _ (Fl.own (S := fun b => g41 ≤ b) r70 (fun b hb => hb) (byteVals_one _)) (by omega)) ?_)
  rintro _ w78 ⟨rfl, hx79⟩
  refine ⟨_, rfl, ?_⟩; intro a80 F81; clear F76; have z82 := hx79.size
  have b86 := ((grown_blk hf74 hg71 (grown_blk hf60 hg57 (((((b4.ext hx17).ext hx24).ext hx31).grownN hg38 (by omega)).ext hx44) (by decide)) (by decide)).ext hx79)
  refine wpl_op (i := 6) rfl (o_store (cells := (byteVals (bsum ((bsum tag) ++ b)))) F81 rfl rfl rfl rfl (F81.get rfl) (F81.get rfl) b86 (inf37.trans (congrArg some (byteVals_len (bsum_len _)).symm)) ((byteVals_len (show List.length (List.replicate 32 0) = _ from List.length_replicate)).trans (byteVals_len (bsum_len _)).symm) (byteVals_one _) ?_)
  intro w83 b84 hg85; have z87 := hg85.size
  refine wpList_nil ?_
  refine hK40 _ _ ?_
  clear hK40
  have F88 := ((((F81.nil.c F81 5 rfl).c F81 4 rfl).c F81 1 rfl).c F81 0 rfl)
  clear F81
  refine wp_ret ?_
  refine retC F88 rfl rfl b84 Tryd.underlying37 rfl (inf37.trans (congrArg some (byteVals_len (bsum_len _)).symm)) ?_
  exact ⟨rfl, (((ext_row (ext_row (((((((Ext.refl w).trans hx5).trans hx17).trans hx24).trans hx31).grownN hg38 (by omega)).trans hx44) hg57 hf60 (by omega)) hg71 hf74 (by omega)).trans hx79).grownN hg85 (by omega))⟩

theorem rtagged_at (tag : List UInt8) {v : Value} {n : Nat} (b : List UInt8) (w : World) (hf : Fl S w 1 v n (byteVals b)) (ht : tag.length ≤ 70368744177664) (hb : n ≤ 35184372088832) : Calls Tryd.prog 50 #[strOf tag, v] w (fun e w' => e = .returned (.agg (byteVals (tagged tag b)).toArray) ∧ Ext w w') := by
  have hm := hf.blen
  subst hm
  obtain ⟨A, c, rfl, _⟩ := hf.form
  exact rtagged_any tag A c b w hf ht hb

set_option maxRecDepth 100000 in
set_option maxHeartbeats 1000000 in
theorem rhalf_any (n : Nat) (w : World) (h2 : 2 ≤ n) (hm : n ≤ 4611686018427387904) :
    Calls Tryd.prog 58 #[.int .i64 (n : Nat)] w (fun e w' => e = .returned (.int .i64 (half n : Nat)) ∧ Ext w w') := by
  refine calls_enter (l := [(.int .i64 (n : Nat))]) Tryd.func58 rfl rfl rfl (fun aA hF => ?_)
  refine wp_seq_k (fun K1 hK1 => ?_)
  refine wp_region_lit ?_
  refine qv 0 (.int .i64 0) hF rfl (rn_assign rfl) fun _ F3 => ?_; clear hF
  refine wpList_nil ?_
  refine hK1 _ _ ?_
  clear hK1
  refine wp_seq_k (fun K4 hK4 => ?_)
  refine wp_region_lit ?_
  refine qv 0 (.int .i64 1) F3 rfl (rn_assign rfl) fun _ F6 => ?_; clear F3
  refine wpList_nil ?_
  refine hK4 _ _ ?_
  clear hK4
  refine wp_seq_k (fun K7 hK7 => ?_)
  refine wp_block ?_
  refine wp_loop (fun a' W => ∃ (k : Nat) (j : Nat), Sl 11 [(0, (.int .i64 (n : Nat))), (2, (.int .i64 0)), (3, (.int .i64 (k : Nat)))] a' ∧ k = 2 ^ j ∧ k < n ∧ 1 ≤ k ∧ Ext w W ∧ w.heap.size ≤ W.heap.size) (fun a' _ => n - (intOf (a'.eval (.tmp 3))).toNat) ⟨1, 0, (((F6.nil.cons (q_get F6 (t := 3) rfl (by first | rfl | (congr 1; omega) | (congr 1; done)))).cons (q_get F6 (t := 2) rfl rfl)).cons (q_get F6 (t := 0) rfl rfl)), rfl, (by omega), (by omega), (Ext.refl w), (Nat.le_refl _)⟩ ?_
  clear F6
  rintro a8 w9 ⟨k, j, F10, hp12, hp13, hp14, hx11, hf15⟩
  have hL16 := F10
  have z17 := hx11.size
  refine wp_seq_k (fun K18 hK18 => ?_)
  refine wp_seq_k (fun K19 hK19 => ?_)
  refine wp_region_lit ?_
  refine qv 0 (.int .i64 (k : Nat)) F10 rfl (rn_move (F10.get rfl)) fun _ F21 => ?_; clear F10
  refine qv 1 (.int .i64 (2 * k : Nat)) F21 rfl (rn_mulN (a := 2) (b := k) rfl (F21.get rfl) (by omega)) fun _ F23 => ?_; clear F21
  refine qv 2 (.int .i64 (n : Nat)) F23 rfl (rn_move (F23.get rfl)) fun _ F25 => ?_; clear F23
  refine qv 3 (.bool (decide (((2 * k : Nat) : Int) < ((n : Nat) : Int)))) F25 rfl (rn_lss (F25.get rfl) (F25.get rfl)) fun _ F27 => ?_; clear F25
  refine wpList_nil ?_
  refine hK19 _ _ ?_
  clear hK19
  by_cases hc28 : ((2 * k : Nat) : Int) < ((n : Nat) : Int)
  · skip
    refine wp_cond_true (c_true F27 rfl (decide_eq_true hc28)) ?_
    refine wp_skip ?_
    refine hK18 _ _ ?_
    clear hK18
    refine wp_block ?_
    refine wp_region_lit ?_
    refine qv 0 (.int .i64 (k : Nat)) F27 rfl (rn_move (F27.get rfl)) fun _ F30 => ?_; clear F27
    refine qv 1 (.int .i64 (2 * k : Nat)) F30 rfl (rn_mulN (a := 2) (b := k) rfl (F30.get rfl) (by omega)) fun _ F32 => ?_; clear F30
    refine qv 2 (.int .i64 (2 * k : Nat)) F32 rfl (rn_assign (F32.get rfl)) fun _ F34 => ?_; clear F32
    refine wpList_nil ?_
    refine ⟨⟨2 * k, (j + 1), (((F34.nil.cons (q_get F34 (t := 3) rfl (by first | rfl | (congr 1; omega) | (congr 1; done)))).cons (q_get F34 (t := 2) rfl rfl)).cons (q_get F34 (t := 0) rfl rfl)), (by rw [Nat.pow_succ]; omega), (by omega), (by omega), ((Ext.refl w).trans hx11), (by omega)⟩, ?_⟩
    rw [F34.get (t := 3) rfl, hL16.get (t := 3) rfl]; simp [intOf] <;> omega
  · skip
    refine wp_cond_false (c_false F27 rfl (decide_eq_false hc28)) ?_
    refine wp_exit ?_
    refine exit_then ?_
    refine exit_then ?_
    refine exit_here ?_
    refine hK7 _ _ ?_
    clear hK7
    refine wp_seq_k (fun K35 hK35 => ?_)
    refine wp_region_lit ?_
    refine qv 0 (.int .i64 (k : Nat)) F27 rfl (rn_move (F27.get rfl)) fun _ F37 => ?_; clear F27
    refine qv 1 (.int .i64 (k : Nat)) F37 rfl (rn_assign (F37.get rfl)) fun _ F39 => ?_; clear F37
    refine wpList_nil ?_
    refine hK35 _ _ ?_
    clear hK35
    have F40 := ((((F39.nil.c F39 7 rfl).c F39 3 rfl).c F39 2 rfl).c F39 0 rfl)
    clear F39
    refine wp_ret ?_
    refine ret1 F40 rfl rfl ?_
    exact ⟨by rw [half_unique (n := n) (k := k) j hp12 (by omega) (by omega)], ((Ext.refl w).trans hx11)⟩

set_option maxRecDepth 100000 in
set_option maxHeartbeats 1000000 in
theorem rnode_any (d d2 : List UInt8) (w : World) (hd : d.length = 32) (hd2 : d2.length = 32) :
    Calls Tryd.prog 59 #[.agg (byteVals d).toArray, .agg (byteVals d2).toArray] w (fun e w' => e = .returned (.agg (byteVals (nodeD d d2)).toArray) ∧ Ext w w') := by
  refine calls_enter (l := [(.agg (byteVals d).toArray), (.agg (byteVals d2).toArray)]) Tryd.func59 rfl rfl rfl (fun aA hF => ?_)
  refine wp_seq_k (fun K1 hK1 => ?_)
  refine wp_region_lit ?_
  refine wpl_op (i := 0) rfl (o_new (fun g => (.pointer (some ⟨g, 0, none⟩))) (byteVals d) 37 hF rfl rfl rfl rfl (rn_box (hF.get rfl) (box_arr _)) ?_)
  intro g2 w3 a8 F9 z6 z7 b4 hx5; clear hF
  refine wpl_op (i := 1) rfl (o_new (fun g => (.pointer (some ⟨g, 0, none⟩))) (byteVals d2) 37 F9 rfl rfl rfl rfl (rn_box (F9.get rfl) (box_arr _)) ?_)
  intro g10 w11 a16 F17 z14 z15 b12 hx13; clear F9
  refine wpl_op (i := 2) rfl (o_new (fun g => (.pointer (some ⟨g, 0, none⟩))) (byteVals (List.replicate 32 0)) 37 F17 rfl rfl rfl rfl (by kernel_rfl) ?_)
  intro g18 w19 a24 F25 z22 z23 b20 hx21; clear F17
  refine wpList_nil ?_
  refine hK1 _ _ ?_
  clear hK1
  refine wp_seq_k (fun K26 hK26 => ?_)
  have hx28 : ∃ W, w19.drew = W ∧ Ext w19 W := ⟨_, rfl, (Ext.refl _).drew⟩
  obtain ⟨w27, e29, hx28⟩ := hx28
  have z30 := hx28.size
  refine any_start (fun W => Ext w27 W ∧ Blk W g2 37 (byteVals d) ∧ Blk W g10 37 (byteVals d2) ∧ Blk W g18 37 (byteVals (List.replicate 32 0))) (fun i => i == 6) 7 #[false, false, false, false, false, false, false] rfl rfl rfl ?_
  rw [e29]; clear e29
  refine qp 1 (.slice (some ⟨g2, 0, none⟩) 32 32) F25 rfl rfl (fun W => (rn_arrAll Tryd.underlying37 inf5 (F25.get rfl))) fun _ F32 => ?_; clear F25
  refine qp 3 (.slice (some ⟨g10, 0, none⟩) 32 32) F32 rfl rfl (fun W => (rn_arrAll Tryd.underlying37 inf5 (F32.get rfl))) fun _ F34 => ?_; clear F32
  refine any_one (i := 0) (by decide +kernel) rfl ?_
  refine o_new (fun g => (.slice (some ⟨g, 0, none⟩) 0 0)) [] 5 F34 rfl rfl rfl rfl (rn_buildSlice (parts0 ) (by kernel_rfl)) ?_
  intro g35 w36 a41 F42 z39 z40 b37 hx38; clear F34
  have b43 := ((((b4.ext hx13).ext hx21).ext hx28).ext hx38)
  have b44 := (((b12.ext hx21).ext hx28).ext hx38)
  have b45 := ((b20.ext hx28).ext hx38)
  refine ⟨fun _ _ => ⟨((Ext.refl w27).trans hx38), b43, b44, b45⟩, ?_⟩
  refine any_one (i := 2) (by decide +kernel) rfl ?_
  have hf54 := (own_blk0 (k := 1) b37)
  refine o_appA (zs := byteVals d) El22 F42 rfl rfl rfl rfl rfl (F42.get rfl) (F42.get rfl) hf54 (Fl.cel (Fl.blk (S := fun b => b = g2) (k := 1) (n := 32) (c := 32) b43 (by rw [byteVals_len hd, Nat.mul_one]) (byteVals_one _) (by omega) rfl)).2.2 (by omega) (by omega) (by omega) (List.nil_append _) ?_
  intro A47 c48 w49 a55 F56 r50 hg51 z52 z53; clear F42; have z57 := hg51.size
  have b58 := (grown_blk hf54 hg51 b43 (by decide))
  have b59 := (grown_blk hf54 hg51 b44 (by decide))
  have b60 := (grown_blk hf54 hg51 b45 (by decide))
  refine ⟨fun _ _ => ⟨(ext_row ((Ext.refl w27).trans hx38) hg51 hf54 (by omega)), b58, b59, b60⟩, ?_⟩
  refine any_one (i := 4) (by decide +kernel) rfl ?_
  have hf68 := r50
  refine o_appA (zs := byteVals (d ++ d2)) El22 F56 rfl rfl rfl rfl rfl (F56.get rfl) (F56.get rfl) hf68 (Fl.cel (Fl.blk (S := fun b => b = g10) (k := 1) (n := 32) (c := 32) b59 (by rw [byteVals_len hd2, Nat.mul_one]) (byteVals_one _) (by omega) rfl)).2.2 (by omega) (by omega) (by omega) (byteVals_app _ _) ?_
  intro A61 c62 w63 a69 F70 r64 hg65 z66 z67; clear F56; have z71 := hg65.size
  have b72 := (grown_blk hf68 hg65 b58 (by decide))
  have b73 := (grown_blk hf68 hg65 b59 (by decide))
  have b74 := (grown_blk hf68 hg65 b60 (by decide))
  refine ⟨fun _ _ => ⟨(ext_row (ext_row ((Ext.refl w27).trans hx38) hg51 hf54 (by omega)) hg65 hf68 (by omega)), b72, b73, b74⟩, ?_⟩
  refine any_one (i := 5) (by decide +kernel) rfl ?_
  refine o_call F70 rfl rfl rfl rfl (rn_call (args2 rfl (F70.get rfl)) rfl (by kernel_rfl)) (rtagged_at ([110, 111, 100, 101]) (v := (.slice A61 ((0 + 32) + 32) c62)) (n := (0 + 32) + 32) (d ++ d2) _ (Fl.own (S := fun b => g35 ≤ b) r64 (fun b hb => hb) (byteVals_one _)) (by decide) (by omega)) ?_
  rintro _ w75 ⟨rfl, hx76⟩
  refine ⟨_, rfl, ?_⟩; intro a77 F78; clear F70; have z79 := hx76.size
  have b80 := (b72.ext hx76)
  have b81 := (b73.ext hx76)
  have b82 := (b74.ext hx76)
  refine ⟨fun _ _ => ⟨((ext_row (ext_row ((Ext.refl w27).trans hx38) hg51 hf54 (by omega)) hg65 hf68 (by omega)).trans hx76), b80, b81, b82⟩, ?_⟩
  refine any_one (i := 6) (by decide +kernel) rfl ?_
  refine o_store (cells := (byteVals (tagged ([110, 111, 100, 101]) (d ++ d2)))) F78 rfl rfl rfl rfl (F78.get rfl) (F78.get rfl) b82 (inf37.trans (congrArg some (byteVals_len (tagged_len _ _)).symm)) ((byteVals_len (show List.length (List.replicate 32 0) = _ from List.length_replicate)).trans (byteVals_len (tagged_len _ _)).symm) (byteVals_one _) ?_
  intro w83 b84 hg85; have z86 := hg85.size
  refine ⟨fun h => absurd h (by decide), ?_⟩
  refine any_nil (by decide +kernel) ?_
  refine hK26 _ _ ?_
  clear hK26
  have F87 := (((((F78.nil.c F78 4 rfl).c F78 3 rfl).c F78 2 rfl).c F78 1 rfl).c F78 0 rfl)
  clear F78
  refine wp_ret ?_
  refine retC F87 rfl rfl b84 Tryd.underlying37 rfl (inf37.trans (congrArg some (byteVals_len (tagged_len _ _)).symm)) ?_
  exact ⟨rfl, (((ext_row (ext_row ((((((Ext.refl w).trans hx5).trans hx13).trans hx21).trans hx28).trans hx38) hg51 hf54 (by omega)) hg65 hf68 (by omega)).trans hx76).grownN hg85 (by omega))⟩

end Go.Proofs.YtmjgjopbeokajaaDoor

namespace Go.Proofs.YtmjgjopbeokajaaDoor
open Go.RowKit

variable {S S' : Nat → Prop}

theorem climb_first' {d : List UInt8} {a n m : Nat} {p : List (List UInt8)} (h : 2 ≤ n) (h2 : a < half n) (hp : p.length = (dirs a n).length) (hm : m = p.length) : climbL nodeD leafD d a n p = nodeD (climbL nodeD leafD d a (half n) (p.take (m - 1))) (p.getD (m - 1) []) ∧ (p.take (m - 1)).length = (dirs a (half n)).length ∧ 0 < m := by
  subst hm
  have h3 : (dirs a n).length = (dirs a (half n)).length + 1 := by rw [dirs_first h h2]; rfl
  have h4 : p = p.take (p.length - 1) ++ [p.getD (p.length - 1) []] := by
    rw [List.getD_eq_getElem?_getD, List.getElem?_eq_getElem (by omega), Option.getD_some]
    have := List.take_append_drop (p.length - 1) p
    rw [List.drop_eq_getElem_cons (by omega), List.drop_eq_nil_of_le (by omega)] at this
    exact this.symm
  refine ⟨?_, by rw [List.length_take]; omega, by omega⟩
  conv => lhs; rw [h4]
  exact climb_first nodeD leafD h h2 (by rw [← h4]; exact hp)
theorem climb_second' {d : List UInt8} {a n m : Nat} {p : List (List UInt8)} (h : 2 ≤ n) (h2 : ¬ a < half n) (hp : p.length = (dirs a n).length) (hm : m = p.length) : climbL nodeD leafD d a n p = nodeD (p.getD (m - 1) []) (climbL nodeD leafD d (a - half n) (n - half n) (p.take (m - 1))) ∧ (p.take (m - 1)).length = (dirs (a - half n) (n - half n)).length ∧ 0 < m := by
  subst hm
  have h3 : (dirs a n).length = (dirs (a - half n) (n - half n)).length + 1 := by rw [dirs_second h h2]; rfl
  have h4 : p = p.take (p.length - 1) ++ [p.getD (p.length - 1) []] := by
    rw [List.getD_eq_getElem?_getD, List.getElem?_eq_getElem (by omega), Option.getD_some]
    have := List.take_append_drop (p.length - 1) p
    rw [List.drop_eq_getElem_cons (by omega), List.drop_eq_nil_of_le (by omega)] at this
    exact this.symm
  refine ⟨?_, by rw [List.length_take]; omega, by omega⟩
  conv => lhs; rw [h4]
  exact climb_second nodeD leafD h h2 (by rw [← h4]; exact hp)

set_option maxRecDepth 100000 in
set_option maxHeartbeats 1000000 in
theorem rlength_ind : ∀ (N : Nat) (a n : Nat) (w : World) (_ : a < n) (_ : n ≤ 4611686018427387904) (_ : n < N), Calls Tryd.prog 61 #[.int .i64 (a : Nat), .int .i64 (n : Nat)] w (fun e w' => e = .returned (.int .i64 ((dirs a n).length : Nat)) ∧ Ext w w') := by
  intro N
  induction N with
  | zero => intro a n w _ _ _; omega
  | succ N ih0 =>
  intro a n w ha hbig hN
  have ih : ∀ (a' n' : Nat) (w' : World) (_ : a' < n') (_ : n' ≤ 4611686018427387904) (_ : n' < n), Calls Tryd.prog 61 #[.int .i64 (a' : Nat), .int .i64 (n' : Nat)] w' (fun e w'' => e = .returned (.int .i64 ((dirs a' n').length : Nat)) ∧ Ext w' w'') := fun a' n' w' h1 h2 h3 => ih0 a' n' w' h1 h2 (by omega)
  clear ih0
  refine calls_enter (l := [(.int .i64 (a : Nat)), (.int .i64 (n : Nat))]) Tryd.func61 rfl rfl rfl (fun aA hF => ?_)
  refine wp_seq_k (fun K1 hK1 => ?_)
  refine wp_region_lit ?_
  refine qv 0 (.int .i64 0) hF rfl (rn_assign rfl) fun _ F3 => ?_; clear hF
  refine wpList_nil ?_
  refine hK1 _ _ ?_
  clear hK1
  refine wp_seq_k (fun K4 hK4 => ?_)
  refine wp_seq_k (fun K5 hK5 => ?_)
  refine wp_region_lit ?_
  refine qv 0 (.int .i64 (n : Nat)) F3 rfl (rn_move (F3.get rfl)) fun _ F7 => ?_; clear F3
  refine qv 1 (.bool (decide (((n : Nat) : Int) = (1 : Int)))) F7 rfl (rn_eql (F7.get rfl) rfl) fun _ F9 => ?_; clear F7
  refine wpList_nil ?_
  refine hK5 _ _ ?_
  clear hK5
  by_cases hc10 : ((n : Nat) : Int) = (1 : Int)
  · skip
    refine wp_cond_true (c_true F9 rfl (decide_eq_true hc10)) ?_
    refine wp_seq_k (fun K11 hK11 => ?_)
    refine wp_region_lit ?_
    refine qv 0 (.int .i64 0) F9 rfl (rn_assign rfl) fun _ F13 => ?_; clear F9
    refine wpList_nil ?_
    refine hK11 _ _ ?_
    clear hK11
    refine wp_ret ?_
    refine ret_then ?_
    refine ret1 F13 rfl rfl ?_
    exact ⟨by rw [dirs_one (by omega)]; simp only [List.length_cons, List.length_nil]; congr 2 <;> omega, (Ext.refl w)⟩
  · skip
    refine wp_cond_false (c_false F9 rfl (decide_eq_false hc10)) ?_
    refine wp_skip ?_
    refine hK4 _ _ ?_
    clear hK4
    refine wp_seq_k (fun K14 hK14 => ?_)
    refine wp_region_lit ?_
    refine qv 0 (.int .i64 (n : Nat)) F9 rfl (rn_move (F9.get rfl)) fun _ F16 => ?_; clear F9
    have z17 := half_lt (n := n) (by omega); have z18 := half_pos n
    refine wpl_op (i := 1) rfl (o_call F16 rfl rfl rfl rfl (rn_call (args1 (F16.get rfl)) rfl (by kernel_rfl)) (rhalf_any n _ (by omega) (by omega)) ?_)
    rintro _ w19 ⟨rfl, hx20⟩
    refine ⟨_, rfl, ?_⟩; intro a21 F22; clear F16; have z23 := hx20.size
    refine qv 2 (.int .i64 (half n : Nat)) F22 rfl (rn_assign (F22.get rfl)) fun _ F25 => ?_; clear F22
    refine wpList_nil ?_
    refine hK14 _ _ ?_
    clear hK14
    refine wp_seq_k (fun K26 hK26 => ?_)
    refine wp_seq_k (fun K27 hK27 => ?_)
    refine wp_region_lit ?_
    refine qv 0 (.int .i64 (a : Nat)) F25 rfl (rn_move (F25.get rfl)) fun _ F29 => ?_; clear F25
    refine qv 1 (.int .i64 (half n : Nat)) F29 rfl (rn_move (F29.get rfl)) fun _ F31 => ?_; clear F29
    refine qv 2 (.bool (decide (((a : Nat) : Int) < ((half n : Nat) : Int)))) F31 rfl (rn_lss (F31.get rfl) (F31.get rfl)) fun _ F33 => ?_; clear F31
    refine wpList_nil ?_
    refine hK27 _ _ ?_
    clear hK27
    have F34 := ((((((F33.nil.c F33 12 rfl).c F33 5 rfl).c F33 7 rfl).c F33 4 rfl).c F33 1 rfl).c F33 0 rfl)
    clear F33
    by_cases hc35 : ((a : Nat) : Int) < ((half n : Nat) : Int)
    · skip
      refine wp_cond_true (c_true F34 rfl (decide_eq_true hc35)) ?_
      refine wp_seq_k (fun K36 hK36 => ?_)
      refine wp_region_lit ?_
      refine qv 0 (.int .i64 (a : Nat)) F34 rfl (rn_move (F34.get rfl)) fun _ F38 => ?_; clear F34
      refine qv 1 (.int .i64 (half n : Nat)) F38 rfl (rn_move (F38.get rfl)) fun _ F40 => ?_; clear F38
      have z41 := dirs_le _ a (half n) (Nat.le_refl _)
      refine wpl_op (i := 2) rfl (o_call F40 rfl rfl rfl rfl (rn_call (args2 (F40.get rfl) (F40.get rfl)) rfl (by kernel_rfl)) (ih a (half n) _ (by omega) (by omega) (by omega)) ?_)
      rintro _ w42 ⟨rfl, hx43⟩
      refine ⟨_, rfl, ?_⟩; intro a44 F45; clear F40; have z46 := hx43.size
      refine qv 3 (.int .i64 (1 + ((dirs a (half n)).length) : Nat)) F45 rfl (rn_addN (a := 1) (b := (dirs a (half n)).length) rfl (F45.get rfl) (by omega)) fun _ F48 => ?_; clear F45
      refine qv 4 (.int .i64 (1 + ((dirs a (half n)).length) : Nat)) F48 rfl (rn_assign (F48.get rfl)) fun _ F50 => ?_; clear F48
      refine wpList_nil ?_
      refine hK36 _ _ ?_
      clear hK36
      have F51 := ((((((F50.nil.c F50 12 rfl).c F50 5 rfl).c F50 7 rfl).c F50 4 rfl).c F50 1 rfl).c F50 0 rfl)
      clear F50
      refine wp_ret ?_
      refine ret_then ?_
      refine ret1 F51 rfl rfl ?_
      exact ⟨by rw [dirs_first (at_ := a) (n := n) (by omega) (by omega)]; simp only [List.length_cons, List.length_nil]; congr 2 <;> omega, (((Ext.refl w).trans hx20).trans hx43)⟩
    · skip
      refine wp_cond_false (c_false F34 rfl (decide_eq_false hc35)) ?_
      refine wp_skip ?_
      refine hK26 _ _ ?_
      clear hK26
      refine wp_seq_k (fun K52 hK52 => ?_)
      refine wp_region_lit ?_
      refine qv 0 (.int .i64 (a : Nat)) F34 rfl (rn_move (F34.get rfl)) fun _ F54 => ?_; clear F34
      refine qv 1 (.int .i64 (half n : Nat)) F54 rfl (rn_move (F54.get rfl)) fun _ F56 => ?_; clear F54
      refine qv 2 (.int .i64 (a - (half n) : Nat)) F56 rfl (rn_subN (a := a) (b := half n) (F56.get rfl) (F56.get rfl) (by omega) (by omega)) fun _ F58 => ?_; clear F56
      refine qv 3 (.int .i64 (n : Nat)) F58 rfl (rn_move (F58.get rfl)) fun _ F60 => ?_; clear F58
      refine qv 4 (.int .i64 (half n : Nat)) F60 rfl (rn_move (F60.get rfl)) fun _ F62 => ?_; clear F60
      refine qv 5 (.int .i64 (n - (half n) : Nat)) F62 rfl (rn_subN (a := n) (b := half n) (F62.get rfl) (F62.get rfl) (by omega) (by omega)) fun _ F64 => ?_; clear F62
      have z65 := dirs_le _ (a - (half n)) (n - (half n)) (Nat.le_refl _)
      refine wpl_op (i := 6) rfl (o_call F64 rfl rfl rfl rfl (rn_call (args2 (F64.get rfl) (F64.get rfl)) rfl (by kernel_rfl)) (ih (a - (half n)) (n - (half n)) _ (by omega) (by omega) (by omega)) ?_)
      rintro _ w66 ⟨rfl, hx67⟩
      refine ⟨_, rfl, ?_⟩; intro a68 F69; clear F64; have z70 := hx67.size
      refine qv 7 (.int .i64 (1 + ((dirs (a - (half n)) (n - (half n))).length) : Nat)) F69 rfl (rn_addN (a := 1) (b := (dirs (a - (half n)) (n - (half n))).length) rfl (F69.get rfl) (by omega)) fun _ F72 => ?_; clear F69
      refine qv 8 (.int .i64 (1 + ((dirs (a - (half n)) (n - (half n))).length) : Nat)) F72 rfl (rn_assign (F72.get rfl)) fun _ F74 => ?_; clear F72
      refine wpList_nil ?_
      refine hK52 _ _ ?_
      clear hK52
      have F75 := ((((((F74.nil.c F74 12 rfl).c F74 5 rfl).c F74 7 rfl).c F74 4 rfl).c F74 1 rfl).c F74 0 rfl)
      clear F74
      refine wp_ret ?_
      refine ret1 F75 rfl rfl ?_
      exact ⟨by rw [dirs_second (at_ := a) (n := n) (by omega) (by omega)]; simp only [List.length_cons, List.length_nil]; congr 2 <;> omega, (((Ext.refl w).trans hx20).trans hx67)⟩

theorem rlength_at (a n : Int) (w : World) (h0 : 0 ≤ a) (h1 : a < n) (h2 : n ≤ 4611686018427387904) :
    Calls Tryd.prog 61 #[.int .i64 a, .int .i64 n] w (fun e w' => e = .returned (.int .i64 ((dirs a.toNat n.toNat).length : Nat)) ∧ Ext w w') := by
  obtain ⟨an, rfl⟩ : ∃ an : Nat, a = (an : Int) := ⟨a.toNat, by omega⟩
  obtain ⟨nn, rfl⟩ : ∃ nn : Nat, n = (nn : Int) := ⟨n.toNat, by omega⟩
  exact rlength_ind _ an nn w (by omega) (by omega) (Nat.lt_succ_self _)

set_option maxRecDepth 100000 in
set_option maxHeartbeats 1000000 in
theorem rclimb_ind (d : List UInt8) (hd : d.length = 32) : ∀ (N : Nat) (a n : Nat) (p : List (List UInt8)) (S : Nat → Prop) (w : World) {m : Nat} {v : Value} (_ : All32 p) (_ : Fl S w 32 v m (digVals p)) (_ : p.length = (dirs a n).length) (_ : a < n) (_ : n ≤ 4611686018427387904) (_ : n < N), Calls Tryd.prog 62 #[.agg (byteVals d).toArray, .int .i64 (a : Nat), .int .i64 (n : Nat), v] w (fun e w' => e = .returned (.agg (byteVals (climbL nodeD leafD d a n p)).toArray) ∧ Ext w w') := by
  intro N
  induction N with
  | zero => intros; omega
  | succ N ih0 =>
  intro a n p S w m v h32 hf0 hp ha hbig hN
  have ih : ∀ (a' n' : Nat) (p' : List (List UInt8)) (w' : World) {S : Nat → Prop} {m' : Nat} {v' : Value} (_ : All32 p') (_ : Fl S w' 32 v' m' (digVals p')) (_ : p'.length = (dirs a' n').length) (_ : a' < n') (_ : n' ≤ 4611686018427387904) (_ : n' < n), Calls Tryd.prog 62 #[.agg (byteVals d).toArray, .int .i64 (a' : Nat), .int .i64 (n' : Nat), v'] w' (fun e w'' => e = .returned (.agg (byteVals (climbL nodeD leafD d a' n' p')).toArray) ∧ Ext w' w'') := by
    intros; apply ih0 <;> first | assumption | omega
  clear ih0
  have hm := Fl.dlen hf0 h32
  subst hm
  obtain ⟨A, c, rfl, hcc0⟩ := hf0.form
  have hf := hf0
  have hc : Fl (Clip S w) w 32 (.slice A p.length c) p.length (digVals p) := hf.clip
  have hcc := (Fl.cel hc).2.1
  refine calls_enter (l := [(.agg (byteVals d).toArray), (.int .i64 (a : Nat)), (.int .i64 (n : Nat)), (.slice A p.length c)]) Tryd.func62 rfl rfl rfl (fun aA hF => ?_)
  refine wp_seq_k (fun K1 hK1 => ?_)
  refine wp_region_lit ?_
  refine wpl_op (i := 0) rfl (o_new (fun g => (.pointer (some ⟨g, 0, none⟩))) (byteVals d) 37 hF rfl rfl rfl rfl (rn_box (hF.get rfl) (box_arr _)) ?_)
  intro g2 w3 a8 F9 z6 z7 b4 hx5; clear hF
  refine wpl_op (i := 1) rfl (o_new (fun g => (.pointer (some ⟨g, 0, none⟩))) (byteVals (List.replicate 32 0)) 37 F9 rfl rfl rfl rfl (by kernel_rfl) ?_)
  intro g10 w11 a16 F17 z14 z15 b12 hx13; clear F9
  refine wpList_nil ?_
  refine hK1 _ _ ?_
  clear hK1
  refine wp_seq_k (fun K18 hK18 => ?_)
  refine wp_seq_k (fun K19 hK19 => ?_)
  refine wp_region_lit ?_
  refine qv 0 (.int .i64 (n : Nat)) F17 rfl (rn_move (F17.get rfl)) fun _ F21 => ?_; clear F17
  refine qv 1 (.bool (decide (((n : Nat) : Int) = (1 : Int)))) F21 rfl (rn_eql (F21.get rfl) rfl) fun _ F23 => ?_; clear F21
  refine wpList_nil ?_
  refine hK19 _ _ ?_
  clear hK19
  by_cases hc24 : ((n : Nat) : Int) = (1 : Int)
  · skip
    refine wp_cond_true (c_true F23 rfl (decide_eq_true hc24)) ?_
    refine wp_seq_k (fun K25 hK25 => ?_)
    refine wp_region_lit ?_
    refine qv 0 (.slice (some ⟨g2, 0, none⟩) 32 32) F23 rfl (rn_arrAll Tryd.underlying37 inf5 (F23.get rfl)) fun _ F27 => ?_; clear F23
    have b28 := (b4.ext hx13)
    refine wpl_op (i := 1) rfl (o_call F27 rfl rfl rfl rfl (rn_call (args2 rfl (F27.get rfl)) rfl (by kernel_rfl)) (rtagged_at ([108, 101, 97, 102]) (v := (.slice (some ⟨g2, 0, none⟩) 32 32)) (n := 32) d _ (Fl.blk (S := fun b => b = g2) (k := 1) (n := 32) (c := 32) b28 (by rw [byteVals_len hd, Nat.mul_one]) (byteVals_one _) (by omega) rfl) (by decide) (by omega)) ?_)
    rintro _ w29 ⟨rfl, hx30⟩
    refine ⟨_, rfl, ?_⟩; intro a31 F32; clear F27; have z33 := hx30.size
    have b37 := (b12.ext hx30)
    refine wpl_op (i := 2) rfl (o_store (cells := (byteVals (tagged ([108, 101, 97, 102]) d))) F32 rfl rfl rfl rfl (F32.get rfl) (F32.get rfl) b37 (inf37.trans (congrArg some (byteVals_len (tagged_len _ _)).symm)) ((byteVals_len (show List.length (List.replicate 32 0) = _ from List.length_replicate)).trans (byteVals_len (tagged_len _ _)).symm) (byteVals_one _) ?_)
    intro w34 b35 hg36; have z38 := hg36.size
    refine wpList_nil ?_
    refine hK25 _ _ ?_
    clear hK25
    refine wp_ret ?_
    refine ret_then ?_
    refine retC F32 rfl rfl b35 Tryd.underlying37 rfl (inf37.trans (congrArg some (byteVals_len (tagged_len _ _)).symm)) ?_
    exact ⟨by rw [climb_one' (d := d) (a := a) (n := n) (p := p) (by omega), leafD], (((((Ext.refl w).trans hx5).trans hx13).trans hx30).grownN hg36 (by omega))⟩
  · skip
    refine wp_cond_false (c_false F23 rfl (decide_eq_false hc24)) ?_
    refine wp_skip ?_
    refine hK18 _ _ ?_
    clear hK18
    refine wp_seq_k (fun K39 hK39 => ?_)
    refine wp_region_lit ?_
    refine qv 0 (.int .i64 (n : Nat)) F23 rfl (rn_move (F23.get rfl)) fun _ F41 => ?_; clear F23
    have z42 := half_lt (n := n) (by omega); have z43 := half_pos n
    refine wpl_op (i := 1) rfl (o_call F41 rfl rfl rfl rfl (rn_call (args1 (F41.get rfl)) rfl (by kernel_rfl)) (rhalf_any n _ (by omega) (by omega)) ?_)
    rintro _ w44 ⟨rfl, hx45⟩
    refine ⟨_, rfl, ?_⟩; intro a46 F47; clear F41; have z48 := hx45.size
    refine qv 2 (.int .i64 (half n : Nat)) F47 rfl (rn_assign (F47.get rfl)) fun _ F50 => ?_; clear F47
    refine wpList_nil ?_
    refine hK39 _ _ ?_
    clear hK39
    refine wp_seq_k (fun K51 hK51 => ?_)
    have z52 : 0 < p.length := by
      by_cases hq : a < half n
      · exact (climb_first' (d := d) (by omega) hq hp rfl).2.2
      · exact (climb_second' (d := d) (by omega) hq hp rfl).2.2
    refine wp_region_lit ?_
    refine qv 0 (.slice A p.length c) F50 rfl (rn_move (F50.get rfl)) fun _ F54 => ?_; clear F50
    refine qv 1 (.slice A p.length c) F54 rfl (rn_move (F54.get rfl)) fun _ F56 => ?_; clear F54
    refine qv 2 (.int .i64 (p.length : Nat)) F56 rfl (rn_len_slice Tryd.underlying28 (F56.get rfl)) fun _ F58 => ?_; clear F56
    refine qv 3 (.int .i64 (p.length - 1 : Nat)) F58 rfl (rn_subN (a := p.length) (b := 1) (F58.get rfl) rfl (by omega) (by omega)) fun _ F60 => ?_; clear F58
    have d64 := (((hc.ext hx5).ext hx13).ext hx45)
    obtain ⟨b61, o62, hA63, -⟩ := Fl.at d64 (by omega)
    refine qv 4 (.pointer (some ⟨b61, o62 + (p.length - 1) * 32, none⟩)) F60 rfl (rn_indexE Tryd.underlying28 inf37 ((F60.get rfl).trans (by rw [hA63])) (F60.get rfl) (by omega : (0 : Int) ≤ (p.length - 1 : Nat)) (by omega : ((p.length - 1 : Nat) : Int) < ((p.length : Nat) : Int)) (by omega)) fun _ F66 => ?_; clear F60
    refine qv 5 (.agg (byteVals (p.getD (p.length - 1) [])).toArray) F66 rfl (rn_loadN (cs := byteVals (p.getD (p.length - 1) [])) (F66.get rfl) Tryd.underlying37 rfl (inf37.trans (congrArg some (byteVals_len (dig_len h32 (p.length - 1) (by omega))).symm)) (Fl.digAt d64 hA63 h32 (by omega))) fun _ F68 => ?_; clear F66
    refine wpl_op (i := 6) rfl (o_new (fun g => (.pointer (some ⟨g, 0, none⟩))) (byteVals (List.replicate 32 0)) 37 F68 rfl rfl rfl rfl (by kernel_rfl) ?_)
    intro g69 w70 a75 F76 z73 z74 b71 hx72; clear F68
    refine wpl_op (i := 7) rfl (o_store (cells := (byteVals (p.getD (p.length - 1) []))) F76 rfl rfl rfl rfl (F76.get rfl) (F76.get rfl) b71 (inf37.trans (congrArg some (byteVals_len (dig_len h32 (p.length - 1) (by omega))).symm)) ((byteVals_len (show List.length (List.replicate 32 0) = _ from List.length_replicate)).trans (byteVals_len (dig_len h32 (p.length - 1) (by omega))).symm) (byteVals_one _) ?_)
    intro w77 b78 hg79; have z80 := hg79.size
    refine wpList_nil ?_
    refine hK51 _ _ ?_
    clear hK51
    have F81 := (((((((((F76.nil.c F76 10 rfl).c F76 9 rfl).c F76 12 rfl).c F76 8 rfl).c F76 4 rfl).c F76 3 rfl).c F76 2 rfl).c F76 1 rfl).c F76 0 rfl)
    clear F76
    refine wp_seq_k (fun K82 hK82 => ?_)
    refine wp_seq_k (fun K83 hK83 => ?_)
    refine wp_region_lit ?_
    refine qv 0 (.int .i64 (a : Nat)) F81 rfl (rn_move (F81.get rfl)) fun _ F85 => ?_; clear F81
    refine qv 1 (.int .i64 (half n : Nat)) F85 rfl (rn_move (F85.get rfl)) fun _ F87 => ?_; clear F85
    refine qv 2 (.bool (decide (((a : Nat) : Int) < ((half n : Nat) : Int)))) F87 rfl (rn_lss (F87.get rfl) (F87.get rfl)) fun _ F89 => ?_; clear F87
    refine wpList_nil ?_
    refine hK83 _ _ ?_
    clear hK83
    by_cases hc90 : ((a : Nat) : Int) < ((half n : Nat) : Int)
    · skip
      refine wp_cond_true (c_true F89 rfl (decide_eq_true hc90)) ?_
      refine wp_seq_k (fun K91 hK91 => ?_)
      have hx93 : ∃ W, w77.drew = W ∧ Ext w77 W := ⟨_, rfl, (Ext.refl _).drew⟩
      obtain ⟨w92, e94, hx93⟩ := hx93
      have z95 := hx93.size
      refine any_start (fun W => Ext w92 W ∧ Blk W g2 37 (byteVals d) ∧ Blk W g69 37 (byteVals (p.getD (p.length - 1) [])) ∧ Blk W g10 37 (byteVals (List.replicate 32 0))) (fun i => i == 11) 12 #[false, false, false, false, false, false, false, false, false, false, false, false] rfl rfl rfl ?_
      rw [e94]; clear e94
      have b97 := (((((b4.ext hx13).ext hx45).ext hx72).grownN hg79 (by omega)).ext hx93)
      have b98 := (b78.ext hx93)
      have b99 := ((((b12.ext hx45).ext hx72).grownN hg79 (by omega)).ext hx93)
      have hS96 : Ext w92 w92 ∧ Blk w92 g2 37 (byteVals d) ∧ Blk w92 g69 37 (byteVals (p.getD (p.length - 1) [])) ∧ Blk w92 g10 37 (byteVals (List.replicate 32 0)) := ⟨(Ext.refl w92), b97, b98, b99⟩
      refine qs 0 (.agg (byteVals d).toArray) F89 rfl rfl hS96 (fun W hW => (rn_loadBlk (F89.get rfl) hW.2.1 Tryd.underlying37 rfl (inf37.trans (congrArg some (byteVals_len hd).symm)))) fun _ F101 => ?_; clear F89
      refine qp 1 (.int .i64 (a : Nat)) F101 rfl rfl (fun W => (rn_move (F101.get rfl))) fun _ F103 => ?_; clear F101
      refine qp 2 (.int .i64 (half n : Nat)) F103 rfl rfl (fun W => (rn_move (F103.get rfl))) fun _ F105 => ?_; clear F103
      refine qp 3 (.slice A p.length c) F105 rfl rfl (fun W => (rn_move (F105.get rfl))) fun _ F107 => ?_; clear F105
      refine qp 4 (.slice A p.length c) F107 rfl rfl (fun W => (rn_move (F107.get rfl))) fun _ F109 => ?_; clear F107
      refine qp 5 (.int .i64 (p.length : Nat)) F109 rfl rfl (fun W => (rn_len_slice Tryd.underlying28 (F109.get rfl))) fun _ F111 => ?_; clear F109
      refine qp 6 (.int .i64 (p.length - 1 : Nat)) F111 rfl rfl (fun W => (rn_subN (a := p.length) (b := 1) (F111.get rfl) rfl (by omega) (by omega))) fun _ F113 => ?_; clear F111
      refine qp 7 (.slice A (p.length - 1) c) F113 rfl rfl (fun W => (rn_sliceHi Tryd.underlying28 inf37 (F113.get rfl) (F113.get rfl) (by omega : (0 : Int) ≤ (p.length - 1 : Nat)) (by omega : ((p.length - 1 : Nat) : Int) ≤ ((c : Nat) : Int)))) fun _ F115 => ?_; clear F113
      refine qs 9 (.agg (byteVals (p.getD (p.length - 1) [])).toArray) F115 rfl rfl hS96 (fun W hW => (rn_loadBlk (F115.get rfl) hW.2.2.1 Tryd.underlying37 rfl (inf37.trans (congrArg some (byteVals_len (dig_len h32 (p.length - 1) (by omega))).symm)))) fun _ F117 => ?_; clear F115
      refine any_one (i := 8) (by decide +kernel) rfl ?_
      have d118 := (hc.pres (((((((Pres.refl w).ext hx5).ext hx13).ext hx45).ext hx72).grownN hg79 (fun h => by simp only [Clip] at h; omega)).ext hx93))
      have hf119 := (Fl.take_eq (j := (p.length - 1)) d118 (by omega) (digVals_take h32 _))
      have hcl120 := climb_first' (d := d) (a := a) (n := n) (p := p) (m := p.length) (by omega) (by omega) hp rfl
      refine o_call F117 rfl rfl rfl rfl (rn_call (args4 (F117.get rfl) (F117.get rfl) (F117.get rfl) (F117.get rfl)) rfl (by kernel_rfl)) (ih a (half n) (p.take (p.length - 1)) _ (All32.take h32 _) hf119 hcl120.2.1 (by omega) (by omega) (by omega)) ?_
      rintro _ w121 ⟨rfl, hx122⟩
      refine ⟨_, rfl, ?_⟩; intro a123 F124; clear F117; have z125 := hx122.size
      have b126 := (b97.ext hx122)
      have b127 := (b98.ext hx122)
      have b128 := (b99.ext hx122)
      refine ⟨fun _ _ => ⟨((Ext.refl w92).trans hx122), b126, b127, b128⟩, ?_⟩
      refine any_one (i := 10) (by decide +kernel) rfl ?_
      refine o_call F124 rfl rfl rfl rfl (rn_call (args2 (F124.get rfl) (F124.get rfl)) rfl (by kernel_rfl)) (rnode_any (climbL nodeD leafD d a (half n) (p.take (p.length - 1))) (p.getD (p.length - 1) []) _ (climbL_len _ _ _ _) (dig_len h32 (p.length - 1) (by omega))) ?_
      rintro _ w129 ⟨rfl, hx130⟩
      refine ⟨_, rfl, ?_⟩; intro a131 F132; clear F124; have z133 := hx130.size
      have b134 := (b126.ext hx130)
      have b135 := (b127.ext hx130)
      have b136 := (b128.ext hx130)
      refine ⟨fun _ _ => ⟨(((Ext.refl w92).trans hx122).trans hx130), b134, b135, b136⟩, ?_⟩
      refine any_one (i := 11) (by decide +kernel) rfl ?_
      refine o_store (cells := (byteVals (nodeD (climbL nodeD leafD d a (half n) (p.take (p.length - 1))) (p.getD (p.length - 1) [])))) F132 rfl rfl rfl rfl (F132.get rfl) (F132.get rfl) b136 (inf37.trans (congrArg some (byteVals_len (nodeD_len _ _)).symm)) ((byteVals_len (show List.length (List.replicate 32 0) = _ from List.length_replicate)).trans (byteVals_len (nodeD_len _ _)).symm) (byteVals_one _) ?_
      intro w137 b138 hg139; have z140 := hg139.size
      refine ⟨fun h => absurd h (by decide), ?_⟩
      refine any_nil (by decide +kernel) ?_
      refine hK91 _ _ ?_
      clear hK91
      have F141 := ((((((((((F132.nil.c F132 25 rfl).c F132 10 rfl).c F132 9 rfl).c F132 12 rfl).c F132 8 rfl).c F132 4 rfl).c F132 3 rfl).c F132 2 rfl).c F132 1 rfl).c F132 0 rfl)
      clear F132
      refine wp_ret ?_
      refine ret_then ?_
      refine retC F141 rfl rfl b138 Tryd.underlying37 rfl (inf37.trans (congrArg some (byteVals_len (nodeD_len _ _)).symm)) ?_
      exact ⟨by rw [hcl120.1], ((((((((((Ext.refl w).trans hx5).trans hx13).trans hx45).trans hx72).grownN hg79 (by omega)).trans hx93).trans hx122).trans hx130).grownN hg139 (by omega))⟩
    · skip
      refine wp_cond_false (c_false F89 rfl (decide_eq_false hc90)) ?_
      refine wp_skip ?_
      refine hK82 _ _ ?_
      clear hK82
      refine wp_seq_k (fun K142 hK142 => ?_)
      have hx144 : ∃ W, w77.drew = W ∧ Ext w77 W := ⟨_, rfl, (Ext.refl _).drew⟩
      obtain ⟨w143, e145, hx144⟩ := hx144
      have z146 := hx144.size
      refine any_start (fun W => Ext w143 W ∧ Blk W g69 37 (byteVals (p.getD (p.length - 1) [])) ∧ Blk W g2 37 (byteVals d) ∧ Blk W g10 37 (byteVals (List.replicate 32 0))) (fun i => i == 15) 16 #[false, false, false, false, false, false, false, false, false, false, false, false, false, false, false, false] rfl rfl rfl ?_
      rw [e145]; clear e145
      have b148 := (b78.ext hx144)
      have b149 := (((((b4.ext hx13).ext hx45).ext hx72).grownN hg79 (by omega)).ext hx144)
      have b150 := ((((b12.ext hx45).ext hx72).grownN hg79 (by omega)).ext hx144)
      have hS147 : Ext w143 w143 ∧ Blk w143 g69 37 (byteVals (p.getD (p.length - 1) [])) ∧ Blk w143 g2 37 (byteVals d) ∧ Blk w143 g10 37 (byteVals (List.replicate 32 0)) := ⟨(Ext.refl w143), b148, b149, b150⟩
      refine qs 0 (.agg (byteVals (p.getD (p.length - 1) [])).toArray) F89 rfl rfl hS147 (fun W hW => (rn_loadBlk (F89.get rfl) hW.2.1 Tryd.underlying37 rfl (inf37.trans (congrArg some (byteVals_len (dig_len h32 (p.length - 1) (by omega))).symm)))) fun _ F152 => ?_; clear F89
      refine qs 1 (.agg (byteVals d).toArray) F152 rfl rfl hS147 (fun W hW => (rn_loadBlk (F152.get rfl) hW.2.2.1 Tryd.underlying37 rfl (inf37.trans (congrArg some (byteVals_len hd).symm)))) fun _ F154 => ?_; clear F152
      refine qp 2 (.int .i64 (a : Nat)) F154 rfl rfl (fun W => (rn_move (F154.get rfl))) fun _ F156 => ?_; clear F154
      refine qp 3 (.int .i64 (half n : Nat)) F156 rfl rfl (fun W => (rn_move (F156.get rfl))) fun _ F158 => ?_; clear F156
      refine qp 4 (.int .i64 (a - (half n) : Nat)) F158 rfl rfl (fun W => (rn_subN (a := a) (b := half n) (F158.get rfl) (F158.get rfl) (by omega) (by omega))) fun _ F160 => ?_; clear F158
      refine qp 5 (.int .i64 (n : Nat)) F160 rfl rfl (fun W => (rn_move (F160.get rfl))) fun _ F162 => ?_; clear F160
      refine qp 6 (.int .i64 (half n : Nat)) F162 rfl rfl (fun W => (rn_move (F162.get rfl))) fun _ F164 => ?_; clear F162
      refine qp 7 (.int .i64 (n - (half n) : Nat)) F164 rfl rfl (fun W => (rn_subN (a := n) (b := half n) (F164.get rfl) (F164.get rfl) (by omega) (by omega))) fun _ F166 => ?_; clear F164
      refine qp 8 (.slice A p.length c) F166 rfl rfl (fun W => (rn_move (F166.get rfl))) fun _ F168 => ?_; clear F166
      refine qp 9 (.slice A p.length c) F168 rfl rfl (fun W => (rn_move (F168.get rfl))) fun _ F170 => ?_; clear F168
      refine qp 10 (.int .i64 (p.length : Nat)) F170 rfl rfl (fun W => (rn_len_slice Tryd.underlying28 (F170.get rfl))) fun _ F172 => ?_; clear F170
      refine qp 11 (.int .i64 (p.length - 1 : Nat)) F172 rfl rfl (fun W => (rn_subN (a := p.length) (b := 1) (F172.get rfl) rfl (by omega) (by omega))) fun _ F174 => ?_; clear F172
      refine qp 12 (.slice A (p.length - 1) c) F174 rfl rfl (fun W => (rn_sliceHi Tryd.underlying28 inf37 (F174.get rfl) (F174.get rfl) (by omega : (0 : Int) ≤ (p.length - 1 : Nat)) (by omega : ((p.length - 1 : Nat) : Int) ≤ ((c : Nat) : Int)))) fun _ F176 => ?_; clear F174
      refine any_one (i := 13) (by decide +kernel) rfl ?_
      have d177 := (hc.pres (((((((Pres.refl w).ext hx5).ext hx13).ext hx45).ext hx72).grownN hg79 (fun h => by simp only [Clip] at h; omega)).ext hx144))
      have hf178 := (Fl.take_eq (j := (p.length - 1)) d177 (by omega) (digVals_take h32 _))
      have hcl179 := climb_second' (d := d) (a := a) (n := n) (p := p) (m := p.length) (by omega) (by omega) hp rfl
      refine o_call F176 rfl rfl rfl rfl (rn_call (args4 (F176.get rfl) (F176.get rfl) (F176.get rfl) (F176.get rfl)) rfl (by kernel_rfl)) (ih (a - (half n)) (n - (half n)) (p.take (p.length - 1)) _ (All32.take h32 _) hf178 hcl179.2.1 (by omega) (by omega) (by omega)) ?_
      rintro _ w180 ⟨rfl, hx181⟩
      refine ⟨_, rfl, ?_⟩; intro a182 F183; clear F176; have z184 := hx181.size
      have b185 := (b148.ext hx181)
      have b186 := (b149.ext hx181)
      have b187 := (b150.ext hx181)
      refine ⟨fun _ _ => ⟨((Ext.refl w143).trans hx181), b185, b186, b187⟩, ?_⟩
      refine any_one (i := 14) (by decide +kernel) rfl ?_
      refine o_call F183 rfl rfl rfl rfl (rn_call (args2 (F183.get rfl) (F183.get rfl)) rfl (by kernel_rfl)) (rnode_any (p.getD (p.length - 1) []) (climbL nodeD leafD d (a - (half n)) (n - (half n)) (p.take (p.length - 1))) _ (dig_len h32 (p.length - 1) (by omega)) (climbL_len _ _ _ _)) ?_
      rintro _ w188 ⟨rfl, hx189⟩
      refine ⟨_, rfl, ?_⟩; intro a190 F191; clear F183; have z192 := hx189.size
      have b193 := (b185.ext hx189)
      have b194 := (b186.ext hx189)
      have b195 := (b187.ext hx189)
      refine ⟨fun _ _ => ⟨(((Ext.refl w143).trans hx181).trans hx189), b193, b194, b195⟩, ?_⟩
      refine any_one (i := 15) (by decide +kernel) rfl ?_
      refine o_store (cells := (byteVals (nodeD (p.getD (p.length - 1) []) (climbL nodeD leafD d (a - (half n)) (n - (half n)) (p.take (p.length - 1)))))) F191 rfl rfl rfl rfl (F191.get rfl) (F191.get rfl) b195 (inf37.trans (congrArg some (byteVals_len (nodeD_len _ _)).symm)) ((byteVals_len (show List.length (List.replicate 32 0) = _ from List.length_replicate)).trans (byteVals_len (nodeD_len _ _)).symm) (byteVals_one _) ?_
      intro w196 b197 hg198; have z199 := hg198.size
      refine ⟨fun h => absurd h (by decide), ?_⟩
      refine any_nil (by decide +kernel) ?_
      refine hK142 _ _ ?_
      clear hK142
      have F200 := ((((((((((F191.nil.c F191 25 rfl).c F191 10 rfl).c F191 9 rfl).c F191 12 rfl).c F191 8 rfl).c F191 4 rfl).c F191 3 rfl).c F191 2 rfl).c F191 1 rfl).c F191 0 rfl)
      clear F191
      refine wp_ret ?_
      refine retC F200 rfl rfl b197 Tryd.underlying37 rfl (inf37.trans (congrArg some (byteVals_len (nodeD_len _ _)).symm)) ?_
      exact ⟨by rw [hcl179.1], ((((((((((Ext.refl w).trans hx5).trans hx13).trans hx45).trans hx72).grownN hg79 (by omega)).trans hx144).trans hx181).trans hx189).grownN hg198 (by omega))⟩

theorem rclimb_at (d : List UInt8) (a n : Int) (p : List (List UInt8)) (w : World) {m : Nat} {v : Value} (hd : d.length = 32) (h32 : All32 p) (hf : Fl S w 32 v m (digVals p)) (hp : p.length = (dirs a.toNat n.toNat).length) (h0 : 0 ≤ a) (h1 : a < n) (h2 : n ≤ 4611686018427387904) :
    Calls Tryd.prog 62 #[.agg (byteVals d).toArray, .int .i64 a, .int .i64 n, v] w (fun e w' => e = .returned (.agg (byteVals (climbL nodeD leafD d a.toNat n.toNat p)).toArray) ∧ Ext w w') := by
  obtain ⟨an, rfl⟩ : ∃ an : Nat, a = (an : Int) := ⟨a.toNat, by omega⟩
  obtain ⟨nn, rfl⟩ : ∃ nn : Nat, n = (nn : Int) := ⟨n.toNat, by omega⟩
  exact rclimb_ind d hd _ an nn p S w h32 hf hp (by omega) (by omega) (Nat.lt_succ_self _)

set_option maxRecDepth 100000 in
set_option maxHeartbeats 1000000 in
theorem rClimb_any (d : List UInt8) (at_ n : Int) (A : Option Addr) (c : Nat) (p : List (List UInt8)) (w : World) (hd : d.length = 32) (h32 : All32 p) (hf : Fl S w 32 (.slice A p.length c) p.length (digVals p)) :
    Calls Tryd.prog 46 #[.agg (byteVals d).toArray, .int .i64 at_, .int .i64 n, .slice A p.length c] w (fun e w' => e = .returned (.tuple #[.agg (byteVals (climbF d at_ n p).1).toArray, .int .i64 (climbF d at_ n p).2]) ∧ Ext w w') := by
  have hc : Fl (Clip S w) w 32 (.slice A p.length c) p.length (digVals p) := hf.clip
  have hcc := (Fl.cel hc).2.1
  refine calls_enter (l := [(.agg (byteVals d).toArray), (.int .i64 at_), (.int .i64 n), (.slice A p.length c)]) Tryd.func46 rfl rfl rfl (fun aA hF => ?_)
  refine wp_seq_k (fun K1 hK1 => ?_)
  refine wp_region_lit ?_
  refine wpl_op (i := 0) rfl (o_new (fun g => (.pointer (some ⟨g, 0, none⟩))) (byteVals d) 37 hF rfl rfl rfl rfl (rn_box (hF.get rfl) (box_arr _)) ?_)
  intro g2 w3 a8 F9 z6 z7 b4 hx5; clear hF
  refine wpl_op (i := 1) rfl (o_new (fun g => (.pointer (some ⟨g, 0, none⟩))) (byteVals (List.replicate 32 0)) 37 F9 rfl rfl rfl rfl (by kernel_rfl) ?_)
  intro g10 w11 a16 F17 z14 z15 b12 hx13; clear F9
  refine qv 2 (.int .i64 0) F17 rfl (rn_assign rfl) fun _ F19 => ?_; clear F17
  refine wpList_nil ?_
  refine hK1 _ _ ?_
  clear hK1
  refine wp_seq_k (fun K20 hK20 => ?_)
  refine wp_seq_k (fun K21 hK21 => ?_)
  refine wp_region_lit ?_
  refine qv 0 (.int .i64 n) F19 rfl (rn_move (F19.get rfl)) fun _ F23 => ?_; clear F19
  refine qv 1 (.bool (decide ((n : Int) < (1 : Int)))) F23 rfl (rn_lss (F23.get rfl) rfl) fun _ F25 => ?_; clear F23
  refine qv 2 (.bool (decide ((n : Int) < (1 : Int)))) F25 rfl (rn_move (F25.get rfl)) fun _ F27 => ?_; clear F25
  by_cases hc28 : (n : Int) < (1 : Int)
  · skip
    refine qu 3 F27 (decide_eq_true hc28) fun _ F30 => ?_; clear F27
    refine qu 4 F30 (decide_eq_true hc28) fun _ F32 => ?_; clear F30
    refine qv 5 (.bool true) F32 rfl (rn_pickT (c_true F32 rfl (decide_eq_true hc28)) rfl) fun _ F34 => ?_; clear F32
    refine qv 6 (.bool true) F34 rfl (rn_move (F34.get rfl)) fun _ F36 => ?_; clear F34
    refine qu 7 F36 rfl fun _ F38 => ?_; clear F36
    refine qu 8 F38 rfl fun _ F40 => ?_; clear F38
    refine qv 9 (.bool true) F40 rfl (rn_pickT (c_true F40 rfl rfl) rfl) fun _ F42 => ?_; clear F40
    refine qv 10 (.bool true) F42 rfl (rn_move (F42.get rfl)) fun _ F44 => ?_; clear F42
    refine qu 11 F44 rfl fun _ F46 => ?_; clear F44
    refine qu 12 F46 rfl fun _ F48 => ?_; clear F46
    refine qu 13 F48 rfl fun _ F50 => ?_; clear F48
    refine qv 14 (.bool true) F50 rfl (rn_pickT (c_true F50 rfl rfl) rfl) fun _ F52 => ?_; clear F50
    refine qv 15 (.bool true) F52 rfl (rn_move (F52.get rfl)) fun _ F54 => ?_; clear F52
    refine qu 16 F54 rfl fun _ F56 => ?_; clear F54
    refine qu 17 F56 rfl fun _ F58 => ?_; clear F56
    refine qu 18 F58 rfl fun _ F60 => ?_; clear F58
    refine qu 19 F60 rfl fun _ F62 => ?_; clear F60
    refine qu 20 F62 rfl fun _ F64 => ?_; clear F62
    refine qu 21 F64 rfl fun _ F66 => ?_; clear F64
    refine qv 22 (.bool true) F66 rfl (rn_pickT (c_true F66 rfl rfl) rfl) fun _ F68 => ?_; clear F66
    refine wpList_nil ?_
    refine hK21 _ _ ?_
    clear hK21
    have F69 := ((((((((F68.nil.c F68 32 rfl).c F68 9 rfl).c F68 8 rfl).c F68 4 rfl).c F68 3 rfl).c F68 2 rfl).c F68 1 rfl).c F68 0 rfl)
    clear F68
    refine wp_cond_true (c_true F69 rfl rfl) ?_
    refine wp_seq_k (fun K70 hK70 => ?_)
    refine wp_region_lit ?_
    refine qv 0 (.agg (byteVals (List.replicate 32 0)).toArray) F69 rfl (rn_build parts0 (by kernel_rfl)) fun _ F72 => ?_; clear F69
    refine wpl_op (i := 1) rfl (o_store (cells := (byteVals (List.replicate 32 0))) F72 rfl rfl rfl rfl (F72.get rfl) (F72.get rfl) b12 (inf37.trans (congrArg some (byteVals_len (show List.length (List.replicate 32 0) = _ from List.length_replicate)).symm)) ((byteVals_len (show List.length (List.replicate 32 0) = _ from List.length_replicate)).trans (byteVals_len (show List.length (List.replicate 32 0) = _ from List.length_replicate)).symm) (byteVals_one _) ?_)
    intro w73 b74 hg75; have z76 := hg75.size
    refine qv 2 (.int .i64 1) F72 rfl (rn_assign rfl) fun _ F78 => ?_; clear F72
    refine wpList_nil ?_
    refine hK70 _ _ ?_
    clear hK70
    refine wp_ret ?_
    refine ret_then ?_
    refine retC1 F78 rfl rfl rfl b74 Tryd.underlying37 rfl (inf37.trans (congrArg some (byteVals_len (show List.length (List.replicate 32 0) = _ from List.length_replicate)).symm)) ?_
    have hcl : climbF d at_ n p = (zero32, 1) := by rw [climbF, if_pos (by omega)]
    exact ⟨by rw [hcl]; rfl, ((((Ext.refl w).trans hx5).trans hx13).grownN hg75 (by omega))⟩
  · skip
    refine qg 3 (.int .i64 n) F27 (decide_eq_false hc28) (rn_move (F27.get rfl)) fun _ F80 => ?_; clear F27
    refine qg 4 (.bool (decide ((1099511627776 : Int) < (n : Int)))) F80 (decide_eq_false hc28) (rn_gtr (F80.get rfl) rfl) fun _ F82 => ?_; clear F80
    refine qv 5 (.bool (decide ((1099511627776 : Int) < (n : Int)))) F82 rfl (rn_pickF (c_false F82 rfl (decide_eq_false hc28)) (F82.get rfl)) fun _ F84 => ?_; clear F82
    refine qv 6 (.bool (decide ((1099511627776 : Int) < (n : Int)))) F84 rfl (rn_move (F84.get rfl)) fun _ F86 => ?_; clear F84
    by_cases hc87 : (1099511627776 : Int) < (n : Int)
    · skip
      refine qu 7 F86 (decide_eq_true hc87) fun _ F89 => ?_; clear F86
      refine qu 8 F89 (decide_eq_true hc87) fun _ F91 => ?_; clear F89
      refine qv 9 (.bool true) F91 rfl (rn_pickT (c_true F91 rfl (decide_eq_true hc87)) rfl) fun _ F93 => ?_; clear F91
      refine qv 10 (.bool true) F93 rfl (rn_move (F93.get rfl)) fun _ F95 => ?_; clear F93
      refine qu 11 F95 rfl fun _ F97 => ?_; clear F95
      refine qu 12 F97 rfl fun _ F99 => ?_; clear F97
      refine qu 13 F99 rfl fun _ F101 => ?_; clear F99
      refine qv 14 (.bool true) F101 rfl (rn_pickT (c_true F101 rfl rfl) rfl) fun _ F103 => ?_; clear F101
      refine qv 15 (.bool true) F103 rfl (rn_move (F103.get rfl)) fun _ F105 => ?_; clear F103
      refine qu 16 F105 rfl fun _ F107 => ?_; clear F105
      refine qu 17 F107 rfl fun _ F109 => ?_; clear F107
      refine qu 18 F109 rfl fun _ F111 => ?_; clear F109
      refine qu 19 F111 rfl fun _ F113 => ?_; clear F111
      refine qu 20 F113 rfl fun _ F115 => ?_; clear F113
      refine qu 21 F115 rfl fun _ F117 => ?_; clear F115
      refine qv 22 (.bool true) F117 rfl (rn_pickT (c_true F117 rfl rfl) rfl) fun _ F119 => ?_; clear F117
      refine wpList_nil ?_
      refine hK21 _ _ ?_
      clear hK21
      have F120 := ((((((((F119.nil.c F119 32 rfl).c F119 9 rfl).c F119 8 rfl).c F119 4 rfl).c F119 3 rfl).c F119 2 rfl).c F119 1 rfl).c F119 0 rfl)
      clear F119
      refine wp_cond_true (c_true F120 rfl rfl) ?_
      refine wp_seq_k (fun K121 hK121 => ?_)
      refine wp_region_lit ?_
      refine qv 0 (.agg (byteVals (List.replicate 32 0)).toArray) F120 rfl (rn_build parts0 (by kernel_rfl)) fun _ F123 => ?_; clear F120
      refine wpl_op (i := 1) rfl (o_store (cells := (byteVals (List.replicate 32 0))) F123 rfl rfl rfl rfl (F123.get rfl) (F123.get rfl) b12 (inf37.trans (congrArg some (byteVals_len (show List.length (List.replicate 32 0) = _ from List.length_replicate)).symm)) ((byteVals_len (show List.length (List.replicate 32 0) = _ from List.length_replicate)).trans (byteVals_len (show List.length (List.replicate 32 0) = _ from List.length_replicate)).symm) (byteVals_one _) ?_)
      intro w124 b125 hg126; have z127 := hg126.size
      refine qv 2 (.int .i64 1) F123 rfl (rn_assign rfl) fun _ F129 => ?_; clear F123
      refine wpList_nil ?_
      refine hK121 _ _ ?_
      clear hK121
      refine wp_ret ?_
      refine ret_then ?_
      refine retC1 F129 rfl rfl rfl b125 Tryd.underlying37 rfl (inf37.trans (congrArg some (byteVals_len (show List.length (List.replicate 32 0) = _ from List.length_replicate)).symm)) ?_
      have hcl : climbF d at_ n p = (zero32, 1) := by rw [climbF, if_pos (by omega)]
      exact ⟨by rw [hcl]; rfl, ((((Ext.refl w).trans hx5).trans hx13).grownN hg126 (by omega))⟩
    · skip
      refine qg 7 (.int .i64 at_) F86 (decide_eq_false hc87) (rn_move (F86.get rfl)) fun _ F131 => ?_; clear F86
      refine qg 8 (.bool (decide ((at_ : Int) < (0 : Int)))) F131 (decide_eq_false hc87) (rn_lss (F131.get rfl) rfl) fun _ F133 => ?_; clear F131
      refine qv 9 (.bool (decide ((at_ : Int) < (0 : Int)))) F133 rfl (rn_pickF (c_false F133 rfl (decide_eq_false hc87)) (F133.get rfl)) fun _ F135 => ?_; clear F133
      refine qv 10 (.bool (decide ((at_ : Int) < (0 : Int)))) F135 rfl (rn_move (F135.get rfl)) fun _ F137 => ?_; clear F135
      by_cases hc138 : (at_ : Int) < (0 : Int)
      · skip
        refine qu 11 F137 (decide_eq_true hc138) fun _ F140 => ?_; clear F137
        refine qu 12 F140 (decide_eq_true hc138) fun _ F142 => ?_; clear F140
        refine qu 13 F142 (decide_eq_true hc138) fun _ F144 => ?_; clear F142
        refine qv 14 (.bool true) F144 rfl (rn_pickT (c_true F144 rfl (decide_eq_true hc138)) rfl) fun _ F146 => ?_; clear F144
        refine qv 15 (.bool true) F146 rfl (rn_move (F146.get rfl)) fun _ F148 => ?_; clear F146
        refine qu 16 F148 rfl fun _ F150 => ?_; clear F148
        refine qu 17 F150 rfl fun _ F152 => ?_; clear F150
        refine qu 18 F152 rfl fun _ F154 => ?_; clear F152
        refine qu 19 F154 rfl fun _ F156 => ?_; clear F154
        refine qu 20 F156 rfl fun _ F158 => ?_; clear F156
        refine qu 21 F158 rfl fun _ F160 => ?_; clear F158
        refine qv 22 (.bool true) F160 rfl (rn_pickT (c_true F160 rfl rfl) rfl) fun _ F162 => ?_; clear F160
        refine wpList_nil ?_
        refine hK21 _ _ ?_
        clear hK21
        have F163 := ((((((((F162.nil.c F162 32 rfl).c F162 9 rfl).c F162 8 rfl).c F162 4 rfl).c F162 3 rfl).c F162 2 rfl).c F162 1 rfl).c F162 0 rfl)
        clear F162
        refine wp_cond_true (c_true F163 rfl rfl) ?_
        refine wp_seq_k (fun K164 hK164 => ?_)
        refine wp_region_lit ?_
        refine qv 0 (.agg (byteVals (List.replicate 32 0)).toArray) F163 rfl (rn_build parts0 (by kernel_rfl)) fun _ F166 => ?_; clear F163
        refine wpl_op (i := 1) rfl (o_store (cells := (byteVals (List.replicate 32 0))) F166 rfl rfl rfl rfl (F166.get rfl) (F166.get rfl) b12 (inf37.trans (congrArg some (byteVals_len (show List.length (List.replicate 32 0) = _ from List.length_replicate)).symm)) ((byteVals_len (show List.length (List.replicate 32 0) = _ from List.length_replicate)).trans (byteVals_len (show List.length (List.replicate 32 0) = _ from List.length_replicate)).symm) (byteVals_one _) ?_)
        intro w167 b168 hg169; have z170 := hg169.size
        refine qv 2 (.int .i64 1) F166 rfl (rn_assign rfl) fun _ F172 => ?_; clear F166
        refine wpList_nil ?_
        refine hK164 _ _ ?_
        clear hK164
        refine wp_ret ?_
        refine ret_then ?_
        refine retC1 F172 rfl rfl rfl b168 Tryd.underlying37 rfl (inf37.trans (congrArg some (byteVals_len (show List.length (List.replicate 32 0) = _ from List.length_replicate)).symm)) ?_
        have hcl : climbF d at_ n p = (zero32, 1) := by rw [climbF, if_pos (by omega)]
        exact ⟨by rw [hcl]; rfl, ((((Ext.refl w).trans hx5).trans hx13).grownN hg169 (by omega))⟩
      · skip
        refine qg 11 (.int .i64 at_) F137 (decide_eq_false hc138) (rn_move (F137.get rfl)) fun _ F174 => ?_; clear F137
        refine qg 12 (.int .i64 n) F174 (decide_eq_false hc138) (rn_move (F174.get rfl)) fun _ F176 => ?_; clear F174
        refine qg 13 (.bool (decide ((n : Int) ≤ (at_ : Int)))) F176 (decide_eq_false hc138) (rn_geq (F176.get rfl) (F176.get rfl)) fun _ F178 => ?_; clear F176
        refine qv 14 (.bool (decide ((n : Int) ≤ (at_ : Int)))) F178 rfl (rn_pickF (c_false F178 rfl (decide_eq_false hc138)) (F178.get rfl)) fun _ F180 => ?_; clear F178
        refine qv 15 (.bool (decide ((n : Int) ≤ (at_ : Int)))) F180 rfl (rn_move (F180.get rfl)) fun _ F182 => ?_; clear F180
        by_cases hc183 : (n : Int) ≤ (at_ : Int)
        · skip
          refine qu 16 F182 (decide_eq_true hc183) fun _ F185 => ?_; clear F182
          refine qu 17 F185 (decide_eq_true hc183) fun _ F187 => ?_; clear F185
          refine qu 18 F187 (decide_eq_true hc183) fun _ F189 => ?_; clear F187
          refine qu 19 F189 (decide_eq_true hc183) fun _ F191 => ?_; clear F189
          refine qu 20 F191 (decide_eq_true hc183) fun _ F193 => ?_; clear F191
          refine qu 21 F193 (decide_eq_true hc183) fun _ F195 => ?_; clear F193
          refine qv 22 (.bool true) F195 rfl (rn_pickT (c_true F195 rfl (decide_eq_true hc183)) rfl) fun _ F197 => ?_; clear F195
          refine wpList_nil ?_
          refine hK21 _ _ ?_
          clear hK21
          have F198 := ((((((((F197.nil.c F197 32 rfl).c F197 9 rfl).c F197 8 rfl).c F197 4 rfl).c F197 3 rfl).c F197 2 rfl).c F197 1 rfl).c F197 0 rfl)
          clear F197
          refine wp_cond_true (c_true F198 rfl rfl) ?_
          refine wp_seq_k (fun K199 hK199 => ?_)
          refine wp_region_lit ?_
          refine qv 0 (.agg (byteVals (List.replicate 32 0)).toArray) F198 rfl (rn_build parts0 (by kernel_rfl)) fun _ F201 => ?_; clear F198
          refine wpl_op (i := 1) rfl (o_store (cells := (byteVals (List.replicate 32 0))) F201 rfl rfl rfl rfl (F201.get rfl) (F201.get rfl) b12 (inf37.trans (congrArg some (byteVals_len (show List.length (List.replicate 32 0) = _ from List.length_replicate)).symm)) ((byteVals_len (show List.length (List.replicate 32 0) = _ from List.length_replicate)).trans (byteVals_len (show List.length (List.replicate 32 0) = _ from List.length_replicate)).symm) (byteVals_one _) ?_)
          intro w202 b203 hg204; have z205 := hg204.size
          refine qv 2 (.int .i64 1) F201 rfl (rn_assign rfl) fun _ F207 => ?_; clear F201
          refine wpList_nil ?_
          refine hK199 _ _ ?_
          clear hK199
          refine wp_ret ?_
          refine ret_then ?_
          refine retC1 F207 rfl rfl rfl b203 Tryd.underlying37 rfl (inf37.trans (congrArg some (byteVals_len (show List.length (List.replicate 32 0) = _ from List.length_replicate)).symm)) ?_
          have hcl : climbF d at_ n p = (zero32, 1) := by rw [climbF, if_pos (by omega)]
          exact ⟨by rw [hcl]; rfl, ((((Ext.refl w).trans hx5).trans hx13).grownN hg204 (by omega))⟩
        · skip
          refine qg 16 (.slice A p.length c) F182 (decide_eq_false hc183) (rn_move (F182.get rfl)) fun _ F209 => ?_; clear F182
          refine qg 17 (.int .i64 (p.length : Nat)) F209 (decide_eq_false hc183) (rn_len_slice Tryd.underlying28 (F209.get rfl)) fun _ F211 => ?_; clear F209
          refine qg 18 (.int .i64 at_) F211 (decide_eq_false hc183) (rn_move (F211.get rfl)) fun _ F213 => ?_; clear F211
          refine qg 19 (.int .i64 n) F213 (decide_eq_false hc183) (rn_move (F213.get rfl)) fun _ F215 => ?_; clear F213
          refine wpl_op (i := 20) rfl (o_call F215 rfl (wanted_guard rfl rfl rfl F215 rfl (decide_eq_false hc183) rfl) rfl rfl (rn_call (args2 (F215.get rfl) (F215.get rfl)) rfl (by kernel_rfl)) (rlength_at at_ n _ (by omega) (by omega) (by omega)) ?_)
          rintro _ w216 ⟨rfl, hx217⟩
          refine ⟨_, rfl, ?_⟩; intro a218 F219; clear F215; have z220 := hx217.size
          refine qg 21 (.bool (decide (((p.length : Nat) : Int) ≠ (((dirs at_.toNat n.toNat).length : Nat) : Int)))) F219 (decide_eq_false hc183) (rn_neq (F219.get rfl) (F219.get rfl)) fun _ F222 => ?_; clear F219
          refine qv 22 (.bool (decide (((p.length : Nat) : Int) ≠ (((dirs at_.toNat n.toNat).length : Nat) : Int)))) F222 rfl (rn_pickF (c_false F222 rfl (decide_eq_false hc183)) (F222.get rfl)) fun _ F224 => ?_; clear F222
          refine wpList_nil ?_
          refine hK21 _ _ ?_
          clear hK21
          have F225 := ((((((((F224.nil.c F224 32 rfl).c F224 9 rfl).c F224 8 rfl).c F224 4 rfl).c F224 3 rfl).c F224 2 rfl).c F224 1 rfl).c F224 0 rfl)
          clear F224
          by_cases hc226 : ((p.length : Nat) : Int) ≠ (((dirs at_.toNat n.toNat).length : Nat) : Int)
          · skip
            refine wp_cond_true (c_true F225 rfl (decide_eq_true hc226)) ?_
            refine wp_seq_k (fun K227 hK227 => ?_)
            refine wp_region_lit ?_
            refine qv 0 (.agg (byteVals (List.replicate 32 0)).toArray) F225 rfl (rn_build parts0 (by kernel_rfl)) fun _ F229 => ?_; clear F225
            have b233 := (b12.ext hx217)
            refine wpl_op (i := 1) rfl (o_store (cells := (byteVals (List.replicate 32 0))) F229 rfl rfl rfl rfl (F229.get rfl) (F229.get rfl) b233 (inf37.trans (congrArg some (byteVals_len (show List.length (List.replicate 32 0) = _ from List.length_replicate)).symm)) ((byteVals_len (show List.length (List.replicate 32 0) = _ from List.length_replicate)).trans (byteVals_len (show List.length (List.replicate 32 0) = _ from List.length_replicate)).symm) (byteVals_one _) ?_)
            intro w230 b231 hg232; have z234 := hg232.size
            refine qv 2 (.int .i64 1) F229 rfl (rn_assign rfl) fun _ F236 => ?_; clear F229
            refine wpList_nil ?_
            refine hK227 _ _ ?_
            clear hK227
            refine wp_ret ?_
            refine ret_then ?_
            refine retC1 F236 rfl rfl rfl b231 Tryd.underlying37 rfl (inf37.trans (congrArg some (byteVals_len (show List.length (List.replicate 32 0) = _ from List.length_replicate)).symm)) ?_
            have hcl : climbF d at_ n p = (zero32, 1) := by rw [climbF, if_pos (by omega)]
            exact ⟨by rw [hcl]; rfl, (((((Ext.refl w).trans hx5).trans hx13).trans hx217).grownN hg232 (by omega))⟩
          · skip
            refine wp_cond_false (c_false F225 rfl (decide_eq_false hc226)) ?_
            refine wp_skip ?_
            refine hK20 _ _ ?_
            clear hK20
            refine wp_seq_k (fun K237 hK237 => ?_)
            refine wp_region_lit ?_
            have b238 := ((b4.ext hx13).ext hx217)
            refine qv 0 (.agg (byteVals d).toArray) F225 rfl (rn_loadBlk (F225.get rfl) b238 Tryd.underlying37 rfl (inf37.trans (congrArg some (byteVals_len hd).symm))) fun _ F240 => ?_; clear F225
            refine qv 1 (.int .i64 at_) F240 rfl (rn_move (F240.get rfl)) fun _ F242 => ?_; clear F240
            refine qv 2 (.int .i64 n) F242 rfl (rn_move (F242.get rfl)) fun _ F244 => ?_; clear F242
            refine qv 3 (.slice A p.length c) F244 rfl (rn_move (F244.get rfl)) fun _ F246 => ?_; clear F244
            have d247 := (((hc.ext hx5).ext hx13).ext hx217)
            refine wpl_op (i := 4) rfl (o_call F246 rfl rfl rfl rfl (rn_call (args4 (F246.get rfl) (F246.get rfl) (F246.get rfl) (F246.get rfl)) rfl (by kernel_rfl)) (rclimb_at d at_ n p _ hd h32 d247 (by omega) (by omega) (by omega) (by omega)) ?_)
            rintro _ w248 ⟨rfl, hx249⟩
            refine ⟨_, rfl, ?_⟩; intro a250 F251; clear F246; have z252 := hx249.size
            have b256 := ((b12.ext hx217).ext hx249)
            refine wpl_op (i := 5) rfl (o_store (cells := (byteVals (climbL nodeD leafD d at_.toNat n.toNat p))) F251 rfl rfl rfl rfl (F251.get rfl) (F251.get rfl) b256 (inf37.trans (congrArg some (byteVals_len (climbL_len _ _ _ _)).symm)) ((byteVals_len (show List.length (List.replicate 32 0) = _ from List.length_replicate)).trans (byteVals_len (climbL_len _ _ _ _)).symm) (byteVals_one _) ?_)
            intro w253 b254 hg255; have z257 := hg255.size
            refine qv 6 (.int .i64 0) F251 rfl (rn_assign rfl) fun _ F259 => ?_; clear F251
            refine wpList_nil ?_
            refine hK237 _ _ ?_
            clear hK237
            have F260 := ((((((((F259.nil.c F259 32 rfl).c F259 9 rfl).c F259 8 rfl).c F259 4 rfl).c F259 3 rfl).c F259 2 rfl).c F259 1 rfl).c F259 0 rfl)
            clear F259
            refine wp_ret ?_
            refine retC1 F260 rfl rfl rfl b254 Tryd.underlying37 rfl (inf37.trans (congrArg some (byteVals_len (climbL_len _ _ _ _)).symm)) ?_
            have hcl : climbF d at_ n p = (climbL nodeD leafD d at_.toNat n.toNat p, 0) := by rw [climbF, if_neg (by omega)]
            exact ⟨by rw [hcl], ((((((Ext.refl w).trans hx5).trans hx13).trans hx217).trans hx249).grownN hg255 (by omega))⟩

theorem rClimb_at {v : Value} {m : Nat} (d : List UInt8) (at_ n : Int) (p : List (List UInt8)) (w : World) (hd : d.length = 32) (h32 : All32 p) (hf : Fl S w 32 v m (digVals p)) : Calls Tryd.prog 46 #[.agg (byteVals d).toArray, .int .i64 at_, .int .i64 n, v] w (fun e w' => e = .returned (.tuple #[.agg (byteVals (climbF d at_ n p).1).toArray, .int .i64 (climbF d at_ n p).2]) ∧ Ext w w') := by
  have hm := Fl.dlen hf h32
  subst hm
  obtain ⟨A, c, rfl, _⟩ := hf.form
  exact rClimb_any d at_ n A c p w hd h32 hf

end Go.Proofs.YtmjgjopbeokajaaDoor

namespace Go.Proofs.YtmjgjopbeokajaaDoor
open Go.RowKit

section
variable {P : Program} {ops : Array Oper} {Q : Exit → Act → World → Prop} {S S2 : World → Prop} {F : Nat → Bool}
theorem any_have {n n1 : Nat} {L L1 : Array Bool} {a : Act} {w : World} (R : Act → World → Prop) (h1 : ∀ a W, R a W → wpAnyF P ops Q S F n1 L1 a W) (h2 : (∀ a W, R a W → wpAnyF P ops Q S F n1 L1 a W) → wpAnyF P ops Q S F n L a w) : wpAnyF P ops Q S F n L a w := h2 h1
end
/-! a block is not that of a row of the call's own -/
theorem own_new {w : World} {base g : Nat} {e : TypeId} {k n : Nat} {v : Value} {xs : List Value} (h : w.ownsRow base e k v n xs) (hg : w.heap.size = g) : some g ≠ v.ownBlock := fun e1 => by
  have := (h.lt g e1.symm).2
  omega
section
variable {N : Nat} {m : List (Nat × Value)} {a : Act} {P : Program} {ops : Array Oper} {Q : Exit → Act → World → Prop} {i : Nat} {w : World} {o : Oper} {K : Act → World → Prop} {d : Nat}
/-- append onto a row of the call's own, with where it lies then -/
theorem o_appB {t e : TypeId} {z : Value} {k bytes : Nat} (E : El P t e z k bytes) (hF : Sl N m a) (ho : ops[i]? = some o) (hw : Region.wanted o (yielded ops a.tmps) = true) (hd : o.dst = some d) (hN : Nat.blt d N = true) {s x : Operand}
    (hop : o.op = .call { callee := .builtin .append, args := #[s, x], argTypes := #[t, t] }) {B : Option Addr} {n c0 : Nat} (hs : a.eval s = .slice B n c0) {A : Option Addr} {n2 c : Nat} (hx : a.eval x = .slice A n2 c)
    {base : Nat} {xs ys zs : List Value} (hown : w.ownsRow base e k (.slice B n c0) n xs) (hr : Cel w k A n2 ys) (hbase : base ≤ w.heap.size)
    (h63 : n + n2 ≤ 9223372036854775807) (hbytes : (n + n2) * bytes ≤ 140737488355328) (hz : xs ++ ys = zs)
    (h : ∀ A' c' w' a', Sl N ((d, .slice A' (n + n2) c') :: m) a' → w'.ownsRow base e k (.slice A' (n + n2) c') (n + n2) zs → w.grownBy w' (Value.slice B n c0).ownBlock → n + n2 ≤ c' → c' ≤ 9223372036854775807 →
      (∀ g, g < w.heap.size → some g ≠ (Value.slice B n c0).ownBlock → some g ≠ (Value.slice A' (n + n2) c').ownBlock) → K a' w') : wpOp P ops Q i K a w := by
  subst hz
  refine op_app E ho hw hop hs hx hown hr hbase h63 hbytes fun v' w' h1 h2 h5 => ?_
  obtain ⟨A', c', rfl, h3, h4⟩ := own_any h1
  refine h A' c' w' _ (by rw [hd]; exact hF.put hN) h1 h2 h3 h4 fun g hg hne => ?_
  rcases h5 with h5 | h5
  · rw [h5]; exact hne
  · rw [h5]; exact fun e => by injection e with e; omega
end
end Go.Proofs.YtmjgjopbeokajaaDoor

namespace Go.Proofs.YtmjgjopbeokajaaDoor
open Go.RowKit
section
variable {P : Program} {ρ : Operand → Value} {W : World} {d : Option Tmp} {t xt yt : TypeId} {p : String} {af : Array Edge} {g : Option (Nat × Bool)} {x y : Operand} {a b a' b' r : Bool}
theorem rn_eqB (hu : P.underlying xt = some .bool) (hx : ρ x = .bool a) (hy : ρ y = .bool b) (ha : a = a') (hb : b = b') (hr : (a' == b') = r) : (execOp ρ ⟨d, .binOp .eql xt x y yt, t, p, af, g⟩).run P W = .ok (.value (.bool r)) W := by
  subst ha hb hr
  exact rn_bin hx hy guard_bool (by simp [binOp, run_equal_bool W xt a b hu])
end
section
variable {P : Program} {ops : Array Oper} {Q : Exit → Act → World → Prop} {S S2 : World → Prop} {F : Nat → Bool}
end
end Go.Proofs.YtmjgjopbeokajaaDoor

namespace Go.Proofs.YtmjgjopbeokajaaDoor
open Go.RowKit

variable {S S' : Nat → Prop} {α : Type}
/-! tables of ints -/
def RI1 (S : Nat → Prop) (w : World) (cs : List Value) (l : List Int) : Prop := ∃ v, cs = [v] ∧ Fl S w 1 v l.length (intVals l)
theorem RI1.ext {w w' : World} {cs : List Value} {l : List Int} (h : RI1 S w cs l) (he : Ext w w') : RI1 S w' cs l := by
  obtain ⟨v, hv, h⟩ := h; exact ⟨v, hv, h.ext he⟩
def RIss (S : Nat → Prop) (w : World) (v : Value) (l : List (List Int)) : Prop := RSl S 1 (RI1 S) w v l
theorem RIss.ext {w w' : World} {v : Value} {l : List (List Int)} (h : RIss S w v l) (he : Ext w w') : RIss S w' v l := RSl.ext h he fun _ _ h => h.ext he
theorem RIss.pres {w w' : World} {v : Value} {l : List (List Int)} (h : RIss S w v l) (hp : Pres S w w') : RIss S w' v l := RSl.keep h hp.1 hp.2 fun _ _ ⟨v, hv, h⟩ => ⟨v, hv, h.pres hp⟩
theorem RIss.subB {w : World} {v : Value} {l : List (List Int)} (h : RIss S w v l) (hs : ∀ b, b < w.heap.size → S b → S' b) : RIss S' w v l := RSl.subB h hs fun _ _ ⟨v, hv, h⟩ => ⟨v, hv, h.subB hs⟩
theorem RIss.clip {w : World} {v : Value} {l : List (List Int)} (h : RIss S w v l) : RIss (Clip S w) w v l := h.subB fun _ hb hs => ⟨hs, hb⟩
theorem RIss.nil (w : World) : RIss S w (.slice none 0 0) [] := RSl.nil w
theorem RIss.form {w : World} {v : Value} {l : List (List Int)} (h : RIss S w v l) : ∃ A cap, v = .slice A l.length cap ∧ l.length ≤ cap ∧ cap ≤ 9223372036854775807 := RSl.form h
theorem RIss.get {w : World} {A : Option Addr} {n cap : Nat} {l : List (List Int)} (h : RIss S w (.slice A n cap) l) {i : Nat} (hi : i < n) :
    ∃ b off A' c, A = some ⟨b, off, none⟩ ∧ b < w.heap.size ∧ w.cell? ⟨b, off + i, none⟩ = some (.slice A' (l.getD i []).length c) ∧ Fl S w 1 (.slice A' (l.getD i []).length c) (l.getD i []).length (intVals (l.getD i [])) ∧ (l.getD i []).length ≤ c ∧ c ≤ 9223372036854775807 := by
  obtain ⟨hn, hc, h3⟩ := RSl.elem h
  obtain ⟨b, off, ha, hb, hx⟩ := h3 (by omega)
  obtain ⟨cs, hk, hcs, v, rfl, hv⟩ := hx i (by omega)
  have e : l.getD i [] = l[i]'(by omega) := by rw [List.getD_eq_getElem?_getD, List.getElem?_eq_getElem (by omega), Option.getD_some]
  rw [← e] at hv
  obtain ⟨A', c, rfl, h5, h6⟩ := hv.form
  refine ⟨b, off, A', c, ha, hb, ?_, hv, h5, h6⟩
  have := hcs 0 _ rfl
  rw [Nat.mul_one, Nat.add_zero] at this
  exact this
theorem RIss.of_fl {w : World} {v : Value} {n : Nat} {vs : List Value} {l : List (List Int)} (h : Fl S w 1 v n vs) (hn : l.length = n) (hr : ∀ i, i < n → ∃ u, vs[i]? = some u ∧ Fl S w 1 u (l.getD i []).length (intVals (l.getD i []))) : RIss S w v l := by
  subst hn
  obtain ⟨A, cap, rfl, hc, hl, hs⟩ := h
  refine ⟨A, cap, vs, rfl, hc, hl, fun i hi => ?_, hs⟩
  have hv : i < vs.length := by rw [hl.1]; omega
  rw [chunk_one hv]
  obtain ⟨u, h1, h2⟩ := hr i hi
  rw [List.getElem?_eq_getElem hv] at h1
  injection h1 with h1
  have e : l.getD i [] = l[i] := by rw [List.getD_eq_getElem?_getD, List.getElem?_eq_getElem hi, Option.getD_some]
  rw [e] at h2
  exact ⟨vs[i], rfl, h1 ▸ h2⟩
/-- a row of slices, each of ints -/
theorem RIss.own {w : World} {base : Nat} {e : TypeId} {v : Value} {n : Nat} {vs : List Value} {l : List (List Int)} (h : w.ownsRow base e 1 v n vs) (hS : ∀ b, base ≤ b → S b) (hn : l.length = n) (h1 : ∀ u ∈ vs, u.oneCell' = true) (hr : ∀ i, i < n → ∃ u, vs[i]? = some u ∧ Fl S w 1 u (l.getD i []).length (intVals (l.getD i []))) : RIss S w v l :=
  RIss.of_fl (Fl.own h hS h1) hn hr

end Go.Proofs.YtmjgjopbeokajaaDoor

namespace Go.Proofs.YtmjgjopbeokajaaDoor
open Go.RowKit

variable {S S' : Nat → Prop}
section
variable {P : Program} {ρ : Operand → Value} {W : World} {d : Option Tmp} {t xt yt : TypeId} {p : String} {af : Array Edge} {g : Option (Nat × Bool)} {x y : Operand}
theorem rn_callvc {f : FuncId} {xs : Array Operand} {ts : Array TypeId} {first cap vs : Array Value} (hf : ρ x = .func (.func f) first cap) (ha : (first ++ xs.map ρ) ++ cap = vs) (hc : (callFunc f vs).run P W = .ok (.enter f vs) W) :
    (execOp ρ ⟨d, .call { callee := .value x, args := xs, argTypes := ts }, t, p, af, g⟩).run P W = .ok (.enter f vs) W := by
  simp [execOp, resolve, hf, ha, Deferred.ofValue, invoke, hc]
end
/-! two elder blocks are written -/
def Two (w w' : World) (p q : Nat) : Prop := w'.os = w.os ∧ w'.tape = w.tape ∧ w'.output = w.output ∧ w.heap.size ≤ w'.heap.size ∧ ∀ b, b < w.heap.size → b ≠ p → b ≠ q → w'.heap[b]? = w.heap[b]?
theorem Two.refl (w : World) (p q : Nat) : Two w w p q := ⟨rfl, rfl, rfl, Nat.le_refl _, fun _ _ _ _ => rfl⟩
theorem Two.ext {w w1 w2 : World} {p q : Nat} (h : Two w w1 p q) (k : Ext w1 w2) : Two w w2 p q :=
  ⟨k.below.os.trans h.1, k.below.tape.trans h.2.1, k.below.output.trans h.2.2.1, Nat.le_trans h.2.2.2.1 k.size, fun b hb h1 h2 => (k.below.block b (Nat.lt_of_lt_of_le hb h.2.2.2.1)).trans (h.2.2.2.2 b hb h1 h2)⟩
theorem Two.grown {w w1 w2 : World} {p q n : Nat} (h : Two w w1 p q) (k : w1.grownBy w2 (some n)) (hn : n = p ∨ n = q ∨ w.heap.size ≤ n) : Two w w2 p q :=
  ⟨k.os.trans h.1, k.tape.trans h.2.1, k.output.trans h.2.2.1, Nat.le_trans h.2.2.2.1 k.size, fun b hb h1 h2 => (k.block b (Nat.lt_of_lt_of_le hb h.2.2.2.1) (fun e => by injection e with e; omega)).trans (h.2.2.2.2 b hb h1 h2)⟩
theorem Two.trans {w w1 w2 : World} {p q : Nat} (h : Two w w1 p q) (k : Two w1 w2 p q) : Two w w2 p q :=
  ⟨k.1.trans h.1, k.2.1.trans h.2.1, k.2.2.1.trans h.2.2.1, Nat.le_trans h.2.2.2.1 k.2.2.2.1, fun b hb h1 h2 => (k.2.2.2.2 b (Nat.lt_of_lt_of_le hb h.2.2.2.1) h1 h2).trans (h.2.2.2.2 b hb h1 h2)⟩
theorem Two.size {w w' : World} {p q : Nat} (h : Two w w' p q) : w.heap.size ≤ w'.heap.size := h.2.2.2.1
theorem Two.blk {w w' : World} {p q n : Nat} {t : TypeId} {cs : List Value} (h : Two w w' p q) (hb : Blk w n t cs) (h1 : n ≠ p) (h2 : n ≠ q) : Blk w' n t cs := (h.2.2.2.2 n hb.lt h1 h2).trans hb
theorem Two.pres {w w' : World} {p q : Nat} (h : Two w w' p q) (h1 : ¬ S p) (h2 : ¬ S q) : Pres S w w' := ⟨h.size, fun b hb hl => h.2.2.2.2 b hl (fun e => h1 (e ▸ hb)) (fun e => h2 (e ▸ hb))⟩
/-- two blocks written are one after the other -/
theorem Two.split {w w' : World} {p q : Nat} (h : Two w w' p q) (hq : q < w.heap.size) : ∃ w1, w.grownBy w1 (some p) ∧ w1.grownBy w' (some q) := by
  refine ⟨{ w' with heap := w'.heap.setIfInBounds q w.heap[q] }, ⟨h.1, h.2.1, h.2.2.1, by simpa using h.size, fun b hb hne => ?_⟩, ⟨rfl, rfl, rfl, by simp, fun b _ hne => ?_⟩⟩
  · by_cases hc : b = q
    · subst hc
      have := h.size
      simp only [Array.getElem?_setIfInBounds_self_of_lt (show b < w'.heap.size by omega)]
      exact (Array.getElem?_eq_getElem hb).symm
    · have hc' : q ≠ b := fun e => hc e.symm
      simp only [Array.getElem?_setIfInBounds_ne hc']
      exact h.2.2.2.2 b hb (fun e => hne (by rw [e])) hc
  · have hc : q ≠ b := fun e => hne (by rw [e])
    simp only [Array.getElem?_setIfInBounds_ne hc]

end Go.Proofs.YtmjgjopbeokajaaDoor

namespace Go.Proofs.YtmjgjopbeokajaaDoor
open Go.RowKit

variable {S S' : Nat → Prop}
section
variable {P : Program} {ρ : Operand → Value} {W : World} {d : Option Tmp} {t : TypeId} {p : String} {af : Array Edge} {g : Option (Nat × Bool)}
end
/-- the first k are u -/
def RepI (u : Int) (m k : Nat) (cur : List Int) : Prop := cur.length = m ∧ ∀ i, i < k → cur.getD i 0 = u
theorem RepI.zero (u : Int) (m : Nat) : RepI u m 0 (List.replicate m 0) := ⟨by simp, fun i hi => by omega⟩
theorem RepI.step {u : Int} {m k n : Nat} {cur ys : List Int} (h : RepI u m k cur) (hk : k + n ≤ m) (hl : n ≤ ys.length) (hy : ∀ i, i < n → ys.getD i 0 = u) : RepI u m (k + n) (splice cur k (ys.take n)) := by
  have hn : (ys.take n).length = n := by rw [List.length_take]; omega
  have hk' : (cur.take k).length = k := by rw [List.length_take, h.1]; omega
  refine ⟨by rw [splice_len (by rw [hn, h.1]; exact hk)]; exact h.1, fun i hi => ?_⟩
  unfold splice
  by_cases hc : i < k
  · have := h.2 i hc
    rw [List.getD_eq_getElem?_getD] at this ⊢
    rw [List.getElem?_append_left (by omega), List.getElem?_take, if_pos hc]
    exact this
  · have := hy (i - k) (by omega)
    rw [List.getD_eq_getElem?_getD] at this ⊢
    rw [List.getElem?_append_right (by omega), hk', List.getElem?_append_left (by omega), List.getElem?_take, if_pos (by omega)]
    exact this
theorem RepI.one {u : Int} {m k : Nat} {cur : List Int} (h : RepI u m k cur) (hk : k < m) : RepI u m (k + 1) (cur.set k u) := by
  refine ⟨by rw [List.length_set]; exact h.1, fun i hi => ?_⟩
  by_cases hc : i = k
  · subst hc
    rw [List.getD_eq_getElem?_getD, List.getElem?_set_self (by rw [h.1]; exact hk)]; rfl
  · have := h.2 i (by omega)
    rw [List.getD_eq_getElem?_getD] at this ⊢
    rw [List.getElem?_set_ne (fun e => hc e.symm)]
    exact this
theorem RepI.take {u : Int} {m k n : Nat} {cur : List Int} (h : RepI u m k cur) (hn : n ≤ k) (hk : k ≤ m) : n ≤ ((cur.drop 0).take k).length ∧ ∀ i, i < n → ((cur.drop 0).take k).getD i 0 = u := by
  refine ⟨by rw [List.length_take, List.length_drop, h.1]; omega, fun i hi => ?_⟩
  have := h.2 i (by omega)
  rw [List.getD_eq_getElem?_getD] at this ⊢
  rw [List.getElem?_take, if_pos (by omega), List.getElem?_drop, Nat.zero_add]
  exact this
theorem RepI.all {u : Int} {m : Nat} {cur : List Int} (h : RepI u m m cur) : cur = List.replicate m u := by
  apply List.ext_getElem (by rw [h.1, List.length_replicate])
  intro i h1 h2
  have := h.2 i (by rw [← h.1]; exact h1)
  rw [List.getD_eq_getElem?_getD, List.getElem?_eq_getElem h1, Option.getD_some] at this
  rw [this, List.getElem_replicate]
end Go.Proofs.YtmjgjopbeokajaaDoor

namespace Go.Proofs.YtmjgjopbeokajaaDoor
open Go.RowKit

section
variable {P : Program} {ops : Array Oper} {Q : Exit → Act → World → Prop} {S : World → Prop} {F : Nat → Bool}
theorem wpAnyF_firstT {i : Nat} {oi : Oper} {v : Value} (Wt : Nat → Bool) (hi : ops[i]? = some oi) (hsel : ∀ (j : Nat) (o : Oper) cs b, ops[j]? = some o → o.op ≠ .select cs b)
    (hQ : ∀ c a w, Q (.panic c) (a.put oi.dst v) w → Q (.panic c) a w)
    (hF : ∀ j, F j = true → Wt j = true) (hW : ∀ j, Wt j = true → j ≠ i) (hwait : ∀ j oj, ops[j]? = some oj → Wt j = true → ∃ e ∈ oj.after, Region.binds .any e = true ∧ (e.on = i ∨ Wt e.on = true)) (hFi : F i = false) :
    ∀ (fuel : Nat) (listed : Array Bool) (a : Act) (w : World),
      (∀ j oj, ops[j]? = some oj → j ≠ i → listed.getD j true = false → (∀ e ∈ oj.after, Region.binds .any e = true → e.on ≠ i) → oi.apart ops oj = true) →
      (∀ j, Wt j = true → listed.getD j true = false) →
      i ∈ Region.ready .any ops listed → YieldsIf P ops S oi v a → S w →
      wpAnyF P ops Q S F fuel (listed.setIfInBounds i true) (a.put oi.dst v) w → wpAnyF P ops Q S F (fuel + 1) listed a w := by
  intro fuel
  induction fuel with
  | zero =>
    intro listed a w _ _ hr hy hS H
    refine ⟨fun h => (by rw [h] at hr; cases hr), fun j hj => ?_⟩
    by_cases hji : j = i
    · subst hji; exact hy.wpOp hi hS ⟨fun _ h => h, H⟩
    · have := ready_mono hj hji
      rw [H.1] at this
      cases this
  | succ fuel ih =>
    intro listed a w hfree hun0 hr hy hS H
    refine ⟨fun h => (by rw [h] at hr; cases hr), fun j hj => ?_⟩
    by_cases hji : j = i
    · subst hji; exact hy.wpOp hi hS ⟨fun _ h => h, H⟩
    · have h1 := H.2 j (ready_mono hj hji)
      obtain ⟨hjun, oj, hoj, hall⟩ := mem_ready.1 hj
      have hno : ∀ k, listed.getD k true = false → ∀ e ∈ oj.after, Region.binds .any e = true → e.on ≠ k := fun k h0 e he hb heq => by
        have h1 := hall e he hb
        rw [heq] at h1
        rcases Nat.lt_or_ge k listed.size with h' | h'
        · simp [h'] at h0 h1; rw [h0] at h1; cases h1
        · simp [Array.getElem?_eq_none h'] at h1
      have hnot := hno i (mem_ready.1 hr).1
      have hWj : Wt j = false := by
        cases hF : Wt j with
        | false => rfl
        | true =>
          obtain ⟨e, he, hb, heq⟩ := hwait j oj hoj hF
          rcases heq with heq | heq
          · exact absurd heq (hnot e he hb)
          · exact absurd rfl (hno e.on (hun0 _ heq) e he hb)
      have hFj : F j = false := by
        cases h : F j with
        | false => rfl
        | true => rw [hF j h] at hWj; cases hWj
      have h2 := wpOp_putIf hoj (hfree j oj hoj hji hjun hnot) (fun cs b => hsel i oi cs b hi) (fun cs b => hsel j oj cs b hoj) hQ hy h1
      have hfree' : ∀ k ok, ops[k]? = some ok → k ≠ i → (listed.setIfInBounds j true).getD k true = false →
          (∀ e ∈ ok.after, Region.binds .any e = true → e.on ≠ i) → oi.apart ops ok = true := fun k ok hk hki hun hno => by
        refine hfree k ok hk hki ?_ hno
        by_cases hjk : j = k
        · subst hjk; exact hjun
        · rw [getD_set_ne true hjk] at hun; exact hun
      refine wpOp_mono (fun a' w' h3 => ⟨h3.2.1, ih (listed.setIfInBounds j true) a' w' hfree' (fun k hk => by rw [getD_set_ne true (fun e => by rw [e] at hWj; rw [hWj] at hk; cases hk)]; exact hun0 k hk) (ready_mono hr (Ne.symm hji)) h3.1 (h3.2.1 hFj hS) ?_⟩) h2
      rw [Array.setIfInBounds_comm _ _ hji]
      exact h3.2.2
def lightT (ops : Array Oper) (F : Nat → Bool) (Wt : List Nat) (L : Array Bool) (i : Nat) : Bool :=
  !F i && Region.free .any ops L i && (Region.ready .any ops L).contains i && (List.range ops.size).all (fun j => !F j || Wt.contains j) &&
    Wt.all fun j => j != i && !L.getD j true && ((ops[j]?).map fun o => o.after.any fun e => Region.binds .any e && (e.on == i || Wt.contains e.on)).getD true
/-- F names operations of the region alone -/
theorem any_lightT {i n : Nat} {L L' : Array Bool} {a : Act} {w : World} {o : Oper} {v : Value} (Wt : List Nat) (hFo : ∀ j, F j = true → j < ops.size) (hs : Region.noSelect ops = true) (hb : lightT ops F Wt L i = true) (hL : L.setIfInBounds i true = L') (ho : ops[i]? = some o) (hQ : ∀ c a w, Q (.panic c) (a.put o.dst v) w → Q (.panic c) a w) (hw : Region.wanted o (yielded ops a.tmps) = true) (hS : S w)
    (hr : ∀ W, S W → (execOp a.eval o).run P W = .ok (.value v) W) (h : wpAnyF P ops Q S F n L' (a.put o.dst v) w) : wpAnyF P ops Q S F (n + 1) L a w := by
  subst hL
  simp only [lightT, Bool.and_eq_true, Bool.not_eq_true', List.all_eq_true, List.mem_range, Bool.or_eq_true] at hb
  obtain ⟨⟨⟨⟨h2, h3⟩, h4⟩, h5⟩, h6⟩ := hb
  have mem : ∀ {j}, Wt.contains j = true → j ∈ Wt := fun h => by simpa using h
  refine wpAnyF_firstT (fun j => Wt.contains j) ho (Region.noSelect_spec hs) hQ (fun j hj => ?_) (fun j hj => ?_) (fun j oj hj hw => ?_) h2 n L a w (Region.free_spec ho h3) (fun j hj => ?_) (by simpa using h4) (.inl ⟨hw, hr⟩) hS h
  · rcases h5 j (hFo j hj) with h | h
    · rw [hj] at h; cases h
    · exact h
  · have := (h6 j (mem hj)).1.1; simpa using this
  · have := (h6 j (mem hw)).2
    rw [hj] at this
    simp only [Option.map_some, Option.getD_some] at this
    obtain ⟨e, he, h7⟩ := Array.any_eq_true'.1 this
    simp only [Bool.and_eq_true, Bool.or_eq_true, beq_iff_eq] at h7
    exact ⟨e, he, h7.1, h7.2⟩
  · exact (h6 j (mem hj)).1.2
variable {N : Nat} {m : List (Nat × Value)} {a : Act} {w : World} {i d : Nat} {o : Oper} {v : Value}
theorem anyt_val {n : Nat} {L L' : Array Bool} (Wt : List Nat) (hF : Sl N m a) (hFo : ∀ j, F j = true → j < ops.size) (hs : Region.noSelect ops = true) (hb : lightT ops F Wt L i = true) (hL : L.setIfInBounds i true = L') (ho : ops[i]? = some o) (hd : o.dst = some d) (hN : Nat.blt d N = true)
    (hQ : ∀ c a w v, Q (.panic c) (a.put (some d) v) w → Q (.panic c) a w) (hw : Region.wanted o (yielded ops a.tmps) = true) (hS : S w)
    (hr : ∀ W, S W → (execOp a.eval o).run P W = .ok (.value v) W) (h : ∀ a', Sl N ((d, v) :: m) a' → wpAnyF P ops Q S F n L' a' w) : wpAnyF P ops Q S F (n + 1) L a w :=
  any_lightT Wt hFo hs hb hL ho (by rw [hd]; exact fun c a w => hQ c a w _) hw hS hr (h _ (by rw [hd]; exact hF.put hN))
end

end Go.Proofs.YtmjgjopbeokajaaDoor

namespace Go.Proofs.YtmjgjopbeokajaaDoor
open Go.RowKit

variable {S S' : Nat → Prop}
section
variable {P : Program} {ρ : Operand → Value} {W : World} {d : Option Tmp} {t xt yt : TypeId} {p : String} {af : Array Edge} {g : Option (Nat × Bool)} {x y : Operand}
theorem rn_shrN {k : IntKind} {a n m : Nat} (hx : ρ x = .int .i64 (a : Nat)) (hy : ρ y = .int k (n : Nat)) (h : n < 64) (hm : a / 2 ^ n = m) : (execOp ρ ⟨d, .binOp .shr xt x y yt, t, p, af, g⟩).run P W = .ok (.value (.int .i64 (m : Nat))) W := by
  subst hm
  refine rn_bin hx hy guard_int ?_
  have hn : min n IntKind.i64.bits = n := Nat.min_eq_left (by show n ≤ 64; omega)
  have h0 : ¬ ((n : Int) < 0) := by omega
  show Sem.run P (Op.shift .shr .i64 ((a : Nat) : Int) k (n : Nat)) W = _
  unfold Op.shift
  rw [if_neg h0]
  show Sem.run P (pure (Value.int .i64 (Int.fdiv ((a : Nat) : Int) (2 ^ (min ((n : Int)).toNat IntKind.i64.bits))))) W = _
  rw [Int.toNat_natCast, hn, Sem.run_pure]
  congr 2
  rw [Int.fdiv_eq_ediv_of_nonneg _ (by exact Int.pow_nonneg (by omega))]
  rw [Int.natCast_ediv, Int.natCast_pow]
  rfl
theorem b_shr8 (a : UInt8) (k : IntKind) (n : Nat) (h : n < 8) : (binOp .shr t (.int .u8 (a.toNat : Nat)) (.int k (n : Nat))).run P W = .ok (.int .u8 ((a >>> UInt8.ofNat n).toNat : Nat)) W := by
  have hn : min n IntKind.u8.bits = n := Nat.min_eq_left (by show n ≤ 8; omega)
  have h0 : ¬ ((n : Int) < 0) := by omega
  show Sem.run P (Op.shift .shr .u8 ((a.toNat : Nat) : Int) k (n : Nat)) W = _
  unfold Op.shift
  rw [if_neg h0]
  show Sem.run P (pure (Value.int .u8 (Int.fdiv ((a.toNat : Nat) : Int) (2 ^ (min ((n : Int)).toNat IntKind.u8.bits))))) W = _
  rw [Int.toNat_natCast, hn, Sem.run_pure]
  congr 2
  rw [UInt8.toNat_shiftRight, UInt8.toNat_ofNat_of_lt' (by show n < 256; omega), Nat.mod_eq_of_lt h, Nat.shiftRight_eq_div_pow, Int.fdiv_eq_ediv_of_nonneg _ (by exact Int.pow_nonneg (by omega))]
  rw [Int.natCast_ediv, Int.natCast_pow]
  rfl
theorem rn_shr8 {a : UInt8} {k : IntKind} {n : Nat} (hx : ρ x = .int .u8 (a.toNat : Nat)) (hy : ρ y = .int k (n : Nat)) (h : n < 8) : (execOp ρ ⟨d, .binOp .shr xt x y yt, t, p, af, g⟩).run P W = .ok (.value (.int .u8 ((a >>> UInt8.ofNat n).toNat : Nat))) W := rn_bin hx hy guard_int (b_shr8 a k n h)
theorem ofInt8 (a : UInt8) : BitVec.ofInt IntKind.u8.bits ((a.toNat : Nat) : Int) = a.toBitVec := by
  apply BitVec.eq_of_toNat_eq
  rw [BitVec.toNat_ofInt]
  show (((a.toNat : Nat) : Int) % 256).toNat = a.toNat
  have := UInt8.toNat_lt a
  omega
theorem wrap8n (n : Nat) (h : n < 256) : IntKind.u8.wrap (n : Int) = n := by rw [wrap8m]; omega
theorem b_and8 (a b : UInt8) : (binOp .and t (.int .u8 (a.toNat : Nat)) (.int .u8 (b.toNat : Nat))).run P W = .ok (.int .u8 ((a &&& b).toNat : Nat)) W := by
  show Sem.run P (pure (Value.int .u8 (IntKind.u8.wrap ((BitVec.ofInt IntKind.u8.bits ((a.toNat : Nat) : Int) &&& BitVec.ofInt IntKind.u8.bits ((b.toNat : Nat) : Int)).toNat : Nat)))) W = _
  rw [ofInt8, ofInt8, Sem.run_pure, wrap8n _ (BitVec.isLt _)]
  rfl
theorem rn_and8 {a b : UInt8} (hx : ρ x = .int .u8 (a.toNat : Nat)) (hy : ρ y = .int .u8 (b.toNat : Nat)) : (execOp ρ ⟨d, .binOp .and xt x y yt, t, p, af, g⟩).run P W = .ok (.value (.int .u8 ((a &&& b).toNat : Nat))) W := rn_bin hx hy guard_int (b_and8 a b)
/-- a slice of nothing, with room -/
theorem rn_makeC {s e : TypeId} {z : Value} {bytes : Nat} (E : El P s e z 1 bytes) (hz : z.cells = #[z]) {kx ky : IntKind} {c : Nat} {cs : List Value} (hx : ρ x = .int kx 0) (hy : ρ y = .int ky c) (h : c * bytes ≤ 140737488355328) (h2 : c ≤ 9223372036854775807) (hc : List.replicate c z = cs) :
    (execOp ρ ⟨d, .makeSlice s x y, t, p, af, g⟩).run P W = .ok (.value (.slice (some ⟨W.heap.size, 0, none⟩) 0 c)) (W.alloc (.cells cs.toArray e)) := by
  obtain ⟨ii, hi, hz0, hz1, hz2⟩ := info_parts E.hi
  have hb : (ii.bytes : Int) * (c : Int) ≤ 281474976710656 := by
    rw [← Int.natCast_mul, hz2, Nat.mul_comm]; omega
  have hr := run_make (P := P) W s e ii z E.ht hi hz0 kx ky 0 c (by omega) (by omega) hb (by omega)
  refine rn_make hx hy (hr.trans ?_)
  rw [Int.toNat_natCast, hz1, hz, made_one, hc]
  rfl
theorem argsw_2 {x0 x1 : Operand} {v0 v1 : Value} {first cap : Array Value} {arg : Value → Value → Array Value} (harg : ∀ u v, (first ++ #[u, v]) ++ cap = arg u v) (h0 : ρ x0 = v0) (h1 : ρ x1 = v1) : (first ++ #[x0, x1].map ρ) ++ cap = arg v0 v1 := by rw [← harg]; simp [h0, h1]
end
theorem own_room {w : World} {g c : Nat} {e : TypeId} {cs : List Value} (h : Blk w g e cs) (hl : cs.length = c) (hc : c ≤ 9223372036854775807) : w.ownsRow g e 1 (.slice (some ⟨g, 0, none⟩) 0 c) 0 [] :=
  ⟨by simp, .inr ⟨g, c, cs.toArray, rfl, Nat.le_refl _, h, Nat.zero_le _, by unfold maxLen; omega, by simp [hl], by simp⟩⟩
/-! rows of one type side by side -/
theorem Apart.app {w : World} {base : Nat} {e : TypeId} {k n : Nat} {v u u' : Value} {xs : List Value} (h : w.ownsRow base e k v n xs) (ha : Apart v u) (hn : ∀ g, g < w.heap.size → some g ≠ u.ownBlock → some g ≠ u'.ownBlock) : Apart v u' := fun g hg hu => by
  obtain ⟨cur, hc⟩ := own_heap h hg
  exact hn g (Array.getElem?_eq_some_iff.1 hc).1 (fun e1 => ha g hg e1.symm) hu.symm
theorem Apart.types {w : World} {base base' : Nat} {e e' : TypeId} {k k' n n' : Nat} {v u : Value} {xs ys : List Value} (h : w.ownsRow base e k v n xs) (h' : w.ownsRow base' e' k' u n' ys) (hne : e ≠ e') : Apart v u := fun g hg hu => by
  obtain ⟨c1, h1⟩ := own_heap h hg
  obtain ⟨c2, h2⟩ := own_heap h' hu
  rw [h1] at h2
  injection h2 with h2
  injection h2 with _ h2
  exact hne h2
theorem Apart.below {w : World} {base : Nat} {e : TypeId} {k n : Nat} {v u : Value} {xs : List Value} (h : w.ownsRow base e k u n xs) (hv : ∀ g, v.ownBlock = some g → g < base) : Apart v u := fun g hg hu => by
  have := (h.lt g hu).1
  have := hv g hg
  omega
end Go.Proofs.YtmjgjopbeokajaaDoor
