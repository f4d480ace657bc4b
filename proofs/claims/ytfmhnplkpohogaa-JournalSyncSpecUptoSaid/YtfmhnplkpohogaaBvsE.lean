/- Several texts in one: JrF, JrG, Zer. -/
import Derived.Test.YtfmhnplkpohogaaProg
import Derived.Test.YtfmhnplkpohogaaBvsD
import Derived.Test.YtfmhnplkpohogaaBvsB
import Derived.KernelRfl
import Derived.Test.YtfmhnplkpohogaaBvsA
import Derived.Lib.AppendZerosOnto
set_option linter.unusedVariables false
set_option linter.unusedSimpArgs false
namespace Go.Proofs.Ytfmhnplkpohogaa
open Go.RowKit

variable {S S' : Nat → Prop}

theorem El35 : El Try.prog 35 5 (.int .u8 0) 1 1 := ⟨Try.underlying35, by kernel_rfl, rfl, by decide⟩
theorem byteVals_mid (l : List UInt8) (j n : Nat) : ((byteVals l).drop (j * 1)).take (n * 1) = byteVals ((l.drop j).take n) := by rw [Nat.mul_one, Nat.mul_one, byteVals_drop, byteVals_take]
theorem own_newer {w : World} {base g : Nat} {e : TypeId} {k n : Nat} {v : Value} {xs : List Value} (h : w.ownsRow base e k v n xs) (hg : w.heap.size ≤ g) : some g ≠ v.ownBlock := fun e1 => by
 rcases h.2 with ⟨rfl, _⟩ | ⟨g', cap, cur, rfl, _, hh, _⟩
 ·cases e1
 ·injection e1 with e1
  subst e1
  have := (Array.getElem?_eq_some_iff.1 hh).1
  omega
theorem copy_eq {la src : List UInt8} {off sl dl : Nat} (h : src.length = sl) (h2 : sl ≤ dl) : splice (byteVals la) off ((byteVals src).take (min sl dl)) = byteVals (la.take off ++ src ++ la.drop (off + sl)) := by
 subst h
 rw [Nat.min_eq_left h2, byteVals_take, List.take_length, splice, byteVals_take, byteVals_len rfl, byteVals_drop, byteVals_app, byteVals_app, List.append_assoc]
theorem copy_len {la src : List UInt8} {off : Nat} (h : off + src.length ≤ la.length) : (la.take off ++ src ++ la.drop (off + src.length)).length = la.length := by
 simp; omega
theorem Blk.celB {w : World} {g : Nat} {t : TypeId} {l : List UInt8} (h : Blk w g t (byteVals l)) {off n : Nat} (hl : off + n ≤ l.length) : Cel w 1 (some ⟨g, off, none⟩) n (byteVals ((l.drop off).take n)) := by
 refine ⟨by simp [byteVals]; omega, byteVals_one _, fun _ => ⟨g, off, rfl, h.lt, fun j u hu => ?_⟩⟩
 have hj := (List.getElem?_eq_some_iff.1 hu).1
 simp [byteVals] at hj
 rw [h.rule.1]
 simp only [byteVals, List.getElem?_map, List.getElem?_take, List.getElem?_drop] at hu ⊢
 rw [if_pos (by omega)] at hu
 exact hu
theorem Fl.midB {w : World} {g : Nat} {t : TypeId} {l : List UInt8} (h : Blk w g t (byteVals l)) {off n c : Nat} (hl : off + n ≤ l.length) (hc : n ≤ c ∧ c ≤ 9223372036854775807) (hS : S g) : Fl S w 1 (.slice (some ⟨g, off, none⟩) n c) n (byteVals ((l.drop off).take n)) :=
 ⟨_, c, rfl, hc, h.celB hl, fun _ => ⟨g, off, rfl, hS⟩⟩

set_option maxRecDepth 100000 in
set_option maxHeartbeats 1000000 in
theorem put_any (g : Nat) (l : List UInt8) (o m c n : Nat) (w : World) (hb : Blk w g 89 (byteVals l)) (hl : o + m ≤ l.length) (hm : m ≤ 8) (hn : n < 18446744073709551616) :
  Calls Try.prog 64 #[.slice (some ⟨g, o, none⟩) m c, .int .u64 (n : Nat)] w (fun e w' => e = .returned (.tuple #[]) ∧ Blk w' g 89 (byteVals (putL l o m n)) ∧ w.grownBy w' (some g)) := by
 have hlt := hb.lt
 refine calls_enter (l := [(.slice (some ⟨g, o, none⟩) m c), (.int .u64 (n : Nat))]) Try.func64 rfl rfl rfl (fun aA hF => ?_)
 refine wp_seq_k (fun K1 hK1 => ?_)
 refine wp_region_lit ?_
 refine qv 0 (.slice (some ⟨g, o, none⟩) m c) hF rfl (rn_move (hF.get rfl)) fun _ F3 => ?_; clear hF
 refine qv 1 (.int .i64 (m : Nat)) F3 rfl (rn_len_slice Try.underlying35 (F3.get rfl)) fun _ F5 => ?_; clear F3
 refine qv 2 (.int .i64 0) F5 rfl (rn_move rfl) fun _ F7 => ?_; clear F5
 refine wpList_nil ?_
 refine hK1 _ _ ?_
 clear hK1
 refine wp_block ?_
 refine wp_loop (fun a' W => ∃ (k : Nat) (x : List UInt8), Sl 23 [(0, (.slice (some ⟨g, o, none⟩) m c)), (1, (.int .u64 (n : Nat))), (6, (.int .i64 (m : Nat))), (7, (.int .i64 (k : Nat)))] a' ∧ k ≤ m ∧ x = putTo l o m n k ∧ w.grownBy W (some g) ∧ Blk W g 89 (byteVals x) ∧ w.heap.size ≤ W.heap.size) (fun a' _ => m - (intOf (a'.eval (.tmp 7))).toNat) ⟨0, l, ((((F7.nil.cons (q_get F7 (t := 7) rfl (by first | rfl | (congr 1; omega) | (congr 1; done)))).cons (q_get F7 (t := 6) rfl rfl)).cons (q_get F7 (t := 1) rfl rfl)).cons (q_get F7 (t := 0) rfl rfl)), (by omega), rfl, (grow_refl w g), hb, (Nat.le_refl _)⟩ ?_
 clear F7
 rintro a8 w9 ⟨k, x, F10, hp12, hp13, hx11, b14, hf15⟩
 have hL16 := F10
 have z17 := hx11.size
 have z18 := b14.lt
 have hxl : x.length = l.length := by rw [hp13]; exact putTo_len _ _ _ _ _
 refine wp_seq_k (fun K19 hK19 => ?_)
 refine wp_region_lit ?_
 refine qv 0 (.bool (decide (((k : Nat) : Int) < ((m : Nat) : Int)))) F10 rfl (rn_lss (F10.get rfl) (F10.get rfl)) fun _ F21 => ?_; clear F10
 refine wpList_nil ?_
 refine hK19 _ _ ?_
 clear hK19
 refine wp_seq_k (fun K22 hK22 => ?_)
 by_cases hc23 : ((k : Nat) : Int) < ((m : Nat) : Int)
 ·skip
  refine wp_cond_true (c_true F21 rfl (decide_eq_true hc23)) ?_
  refine wp_skip ?_
  refine hK22 _ _ ?_
  clear hK22
  refine wp_seq_k (fun K24 hK24 => ?_)
  refine wp_block ?_
  refine wp_seq_k (fun K25 hK25 => ?_)
  refine wp_region_lit ?_
  refine qv 0 (.int .i64 (k : Nat)) F21 rfl (rn_move (F21.get rfl)) fun _ F27 => ?_; clear F21
  refine qv 1 (.int .i64 (k : Nat)) F27 rfl (rn_assign (F27.get rfl)) fun _ F29 => ?_; clear F27
  refine wpList_nil ?_
  refine hK25 _ _ ?_
  clear hK25
  refine wp_region_lit ?_
  refine qv 0 (.slice (some ⟨g, o, none⟩) m c) F29 rfl (rn_move (F29.get rfl)) fun _ F31 => ?_; clear F29
  refine qv 1 (.slice (some ⟨g, o, none⟩) m c) F31 rfl (rn_move (F31.get rfl)) fun _ F33 => ?_; clear F31
  refine qv 2 (.int .i64 (m : Nat)) F33 rfl (rn_len_slice Try.underlying35 (F33.get rfl)) fun _ F35 => ?_; clear F33
  refine qv 3 (.int .i64 (m - 1 : Nat)) F35 rfl (rn_subN (a := m) (b := 1) (F35.get rfl) rfl (by omega) (by omega)) fun _ F37 => ?_; clear F35
  refine qv 4 (.int .i64 (k : Nat)) F37 rfl (rn_move (F37.get rfl)) fun _ F39 => ?_; clear F37
  refine qv 5 (.int .i64 ((m - 1) - k : Nat)) F39 rfl (rn_subN (a := m - 1) (b := k) (F39.get rfl) (F39.get rfl) (by omega) (by omega)) fun _ F41 => ?_; clear F39
  refine qv 6 (.int .u64 (n : Nat)) F41 rfl (rn_move (F41.get rfl)) fun _ F43 => ?_; clear F41
  refine qv 7 (.int .i64 (k : Nat)) F43 rfl (rn_move (F43.get rfl)) fun _ F45 => ?_; clear F43
  refine qv 8 (.int .i64 (8 * k : Nat)) F45 rfl (rn_mulN (a := 8) (b := k) rfl (F45.get rfl) (by omega)) fun _ F47 => ?_; clear F45
  refine qv 9 (.int .u64 (n / 2 ^ (8 * k) : Nat)) F47 rfl (rn_shrU (a := n) (n := 8 * k) (F47.get rfl) (F47.get rfl) (by omega)) fun _ F49 => ?_; clear F47
  refine qv 10 (.int .u8 ((UInt8.ofNat (n / 2 ^ (8 * k))).toNat : Nat)) F49 rfl (rn_convW Try.underlying68 Try.underlying5 (F49.get rfl) (cvi_8 (n / 2 ^ (8 * k)))) fun _ F51 => ?_; clear F49
  refine qv 11 (.pointer (some ⟨g, o + ((m - 1) - k), none⟩)) F51 rfl (rn_index1 Try.underlying35 inf5 (F51.get rfl) (F51.get rfl) (by omega : (0 : Int) ≤ ((m - 1) - k : Nat)) (by omega : (((m - 1) - k : Nat) : Int) < ((m : Nat) : Int))) fun _ F53 => ?_; clear F51
  refine wpl_op (i := 12) rfl (o_store1 (new := (byteVals (x.set (o + ((m - 1) - k)) (UInt8.ofNat (n / 2 ^ (8 * k)))))) F53 rfl rfl rfl rfl (F53.get rfl) (F53.get rfl) b14 inf5 (by rw [byteVals_len hxl]; omega) rfl (byteVals_set (by omega)) ?_)
  intro w54 b55 hg56; have z57 := hg56.size
  refine wpList_nil ?_
  refine hK24 _ _ ?_
  clear hK24
  have F58 := ((((((F53.nil.c F53 4 rfl).c F53 8 rfl).c F53 7 rfl).c F53 6 rfl).c F53 1 rfl).c F53 0 rfl)
  clear F53
  refine wp_region_lit ?_
  refine qv 0 (.int .i64 (k + 1 : Nat)) F58 rfl (rn_addN (a := k) (b := 1) (F58.get rfl) rfl (by omega)) fun _ F60 => ?_; clear F58
  refine qv 1 (.int .i64 (k + 1 : Nat)) F60 rfl (rn_move (F60.get rfl)) fun _ F62 => ?_; clear F60
  refine wpList_nil ?_
  refine ⟨⟨(k + 1), x.set (o + ((m - 1) - k)) (UInt8.ofNat (n / 2 ^ (8 * k))), ((((F62.nil.cons (q_get F62 (t := 7) rfl (by first | rfl | (congr 1; omega) | (congr 1; done)))).cons (q_get F62 (t := 6) rfl rfl)).cons (q_get F62 (t := 1) rfl rfl)).cons (q_get F62 (t := 0) rfl rfl)), (by omega), (by rw [putTo, ← hp13]), (grow_set (grow_set (grow_refl w g) hx11) hg56), b55, (by omega)⟩, ?_⟩
  rw [F62.get (t := 7) rfl, hL16.get (t := 7) rfl]; simp [intOf] <;> omega
 ·skip
  refine wp_cond_false (c_false F21 rfl (decide_eq_false hc23)) ?_
  refine wp_exit ?_
  refine exit_then ?_
  refine exit_then ?_
  refine exit_here ?_
  refine ret0 F21 rfl ?_
  have hk : k = m := by omega
  have hx := hp13
  rw [hk] at hx
  exact ⟨rfl, (by rw [putL, ← hx]; exact b14), (grow_set (grow_refl w g) hx11)⟩

set_option maxRecDepth 100000 in
set_option maxHeartbeats 1000000 in
theorem encode_any (n k : Nat) (q : UInt8) (A : Option Addr) (c : Nat) (b : List UInt8) (w : World) (hf : Fl S w 1 (.slice A b.length c) b.length (byteVals b)) (hq : b.length ≤ 112) (hn : n < 18446744073709551616) (hk : k < 65536) :
  Calls Try.prog 44 #[.int .u64 (n : Nat), .int .i64 (k : Nat), .int .u8 (q.toNat : Nat), .slice A b.length c] w (fun e w' => ∃ g, w.heap.size ≤ g ∧ e = .returned (.slice (some ⟨g, 0, none⟩) 128 128) ∧ Blk w' g 89 (byteVals (encL n k q b)) ∧ Ext w w') := by
 have hc : Fl (Clip S w) w 1 (.slice A b.length c) b.length (byteVals b) := hf.clip
 have hcc := (Fl.cel hc).2.1
 refine calls_enter (l := [(.int .u64 (n : Nat)), (.int .i64 (k : Nat)), (.int .u8 (q.toNat : Nat)), (.slice A b.length c)]) Try.func44 rfl rfl rfl (fun aA hF => ?_)
 refine wp_seq_k (fun K1 hK1 => ?_)
 refine wp_region_lit ?_
 refine qv 0 (.slice none 0 0) hF rfl (rn_assign rfl) fun _ F3 => ?_; clear hF
 refine wpList_nil ?_
 refine hK1 _ _ ?_
 clear hK1
 refine wp_seq_k (fun K4 hK4 => ?_)
 refine wp_region_lit ?_
 refine wpl_op (i := 0) rfl (o_new (fun g => (.pointer (some ⟨g, 0, none⟩))) (byteVals (List.replicate 128 0)) 89 F3 rfl rfl rfl rfl (by kernel_rfl) ?_)
 intro g5 w6 a11 F12 z9 z10 b7 hx8; clear F3
 refine wpList_nil ?_
 refine hK4 _ _ ?_
 clear hK4
 refine wp_seq_k (fun K13 hK13 => ?_)
 refine wp_region_lit ?_
 refine qv 0 (.slice (some ⟨g5, 0, none⟩) 4 128) F12 rfl (rn_arrHi Try.underlying89 inf5 (F12.get rfl) rfl (by omega : (0 : Int) ≤ 4) (by omega : (4 : Int) ≤ ((128 : Nat) : Int))) fun _ F15 => ?_; clear F12
 refine qv 1 (.int .u64 (n : Nat)) F15 rfl (rn_move (F15.get rfl)) fun _ F17 => ?_; clear F15
 refine wpl_op (i := 2) rfl (o_call F17 rfl rfl rfl rfl (rn_call (args2 (F17.get rfl) (F17.get rfl)) rfl (by kernel_rfl)) (put_any g5 (List.replicate 128 0) 0 4 128 n _ b7 (by have := (show List.length (List.replicate 128 (0 : UInt8)) = 128 from rfl); omega) (by omega) (by omega)) ?_)
 rintro _ w18 ⟨rfl, b19, hg20⟩
 refine ⟨_, rfl, ?_⟩; intro a21 F22; clear F17; have z23 := hg20.size
 refine wpList_nil ?_
 refine hK13 _ _ ?_
 clear hK13
 refine wp_seq_k (fun K24 hK24 => ?_)
 obtain ⟨v25, e26⟩ : ∃ z, z = putL (List.replicate 128 0) 0 4 n := ⟨_, rfl⟩
 have hl27 : v25.length = 128 := (congrArg List.length e26).trans ((putL_len _ _ _ _).trans (show List.length (List.replicate 128 (0 : UInt8)) = 128 from rfl))
 rw [← e26] at b19
 refine wp_region_lit ?_
 refine qv 0 (.slice (some ⟨g5, 8, none⟩) 2 120) F22 rfl (rn_arrLH (l := 8) (h := 10) Try.underlying89 inf5 (F22.get rfl) rfl rfl (by omega) (by omega) (by omega) rfl rfl rfl) fun _ F29 => ?_; clear F22
 refine qv 1 (.int .i64 (k : Nat)) F29 rfl (rn_move (F29.get rfl)) fun _ F31 => ?_; clear F29
 refine qv 2 (.int .u64 (k : Nat)) F31 rfl (rn_convW Try.underlying3 Try.underlying68 (F31.get rfl) (cvn_64 k (by omega))) fun _ F33 => ?_; clear F31
 refine wpl_op (i := 3) rfl (o_call F33 rfl rfl rfl rfl (rn_call (args2 (F33.get rfl) (F33.get rfl)) rfl (by kernel_rfl)) (put_any g5 v25 8 2 120 k _ b19 (by have := hl27; omega) (by omega) (by omega)) ?_)
 rintro _ w34 ⟨rfl, b35, hg36⟩
 refine ⟨_, rfl, ?_⟩; intro a37 F38; clear F33; have z39 := hg36.size
 refine wpList_nil ?_
 refine hK24 _ _ ?_
 clear hK24
 have F40 := ((((((F38.nil.c F38 9 rfl).c F38 8 rfl).c F38 3 rfl).c F38 2 rfl).c F38 1 rfl).c F38 0 rfl)
 clear F38
 refine wp_seq_k (fun K41 hK41 => ?_)
 obtain ⟨v42, e43⟩ : ∃ z, z = putL v25 8 2 k := ⟨_, rfl⟩
 have hl44 : v42.length = 128 := (congrArg List.length e43).trans ((putL_len _ _ _ _).trans hl27)
 rw [← e43] at b35
 refine wp_region_lit ?_
 refine qv 0 (.int .u8 (q.toNat : Nat)) F40 rfl (rn_move (F40.get rfl)) fun _ F46 => ?_; clear F40
 refine qv 1 (.slice A b.length c) F46 rfl (rn_move (F46.get rfl)) fun _ F48 => ?_; clear F46
 refine qv 2 (.int .i64 (b.length : Nat)) F48 rfl (rn_len_slice Try.underlying35 (F48.get rfl)) fun _ F50 => ?_; clear F48
 refine qv 3 (.int .u8 ((UInt8.ofNat b.length).toNat : Nat)) F50 rfl (rn_convW Try.underlying3 Try.underlying5 (F50.get rfl) (cvi_8 b.length)) fun _ F52 => ?_; clear F50
 refine qv 4 (.pointer (some ⟨g5, 0 + 10, none⟩)) F52 rfl (rn_indexArr Try.underlying89 inf5 (F52.get rfl) rfl (by omega : (0 : Int) ≤ 10) (by omega : (10 : Int) < ((128 : Nat) : Int))) fun _ F54 => ?_; clear F52
 refine wpl_op (i := 5) rfl (o_store1 (new := (byteVals (v42.set 10 q))) F54 rfl rfl rfl rfl (F54.get rfl) (F54.get rfl) b35 inf5 (by rw [byteVals_len hl44]; omega) rfl (byteVals_set (by omega)) ?_)
 intro w55 b56 hg57; have z58 := hg57.size
 refine qv 6 (.pointer (some ⟨g5, 0 + 11, none⟩)) F54 rfl (rn_indexArr Try.underlying89 inf5 (F54.get rfl) rfl (by omega : (0 : Int) ≤ 11) (by omega : (11 : Int) < ((128 : Nat) : Int))) fun _ F60 => ?_; clear F54
 refine wpl_op (i := 7) rfl (o_store1 (new := (byteVals ((v42.set 10 q).set 11 (UInt8.ofNat b.length)))) F60 rfl rfl rfl rfl (F60.get rfl) (F60.get rfl) b56 inf5 (by rw [byteVals_len (show List.length (v42.set 10 q) = _ from List.length_set.trans hl44)]; omega) rfl (byteVals_set (by omega)) ?_)
 intro w61 b62 hg63; have z64 := hg63.size
 refine wpList_nil ?_
 refine hK41 _ _ ?_
 clear hK41
 have F65 := ((((((F60.nil.c F60 9 rfl).c F60 8 rfl).c F60 3 rfl).c F60 2 rfl).c F60 1 rfl).c F60 0 rfl)
 clear F60
 refine wp_seq_k (fun K66 hK66 => ?_)
 obtain ⟨v67, e68⟩ : ∃ z, z = (v42.set 10 q) := ⟨_, rfl⟩
 have hl69 : v67.length = 128 := (congrArg List.length e68).trans (show List.length (v42.set 10 q) = _ from List.length_set.trans hl44)
 rw [← e68] at b62
 obtain ⟨v70, e71⟩ : ∃ z, z = v67.set 11 (UInt8.ofNat b.length) := ⟨_, rfl⟩
 have hl72 : v70.length = 128 := (congrArg List.length e71).trans (show List.length (v67.set 11 (UInt8.ofNat b.length)) = _ from List.length_set.trans hl69)
 rw [← e71] at b62
 refine wp_region_lit ?_
 refine qv 0 (.slice (some ⟨g5, 12, none⟩) 116 116) F65 rfl (rn_arrLo (l := 12) Try.underlying89 inf5 (F65.get rfl) rfl (by omega)) fun _ F74 => ?_; clear F65
 refine qv 1 (.slice A b.length c) F74 rfl (rn_move (F74.get rfl)) fun _ F76 => ?_; clear F74
 have d77 := (hc.pres ((((((Pres.refl w).ext hx8).grownN hg20 (fun h => by simp only [Clip] at h; omega)).grownN hg36 (fun h => by simp only [Clip] at h; omega)).grownN hg57 (fun h => by simp only [Clip] at h; omega)).grownN hg63 (fun h => by simp only [Clip] at h; omega)))
 refine wpl_op (i := 2) rfl (o_copy (new := byteVals (v70.take 12 ++ b ++ v70.drop (12 + b.length))) (n := b.length) (El35) F76 rfl rfl rfl rfl rfl (F76.get rfl) (F76.get rfl) b62 (Fl.cel d77).2.2 (by rw [byteVals_len hl72]; omega) (copy_eq rfl (by omega)) (by omega) ?_)
 intro w78 a81 F82 b79 hg80; clear F76; have z83 := hg80.size
 refine wpList_nil ?_
 refine hK66 _ _ ?_
 clear hK66
 refine wp_seq_k (fun K84 hK84 => ?_)
 obtain ⟨v85, e86⟩ : ∃ z, z = v70.take 12 ++ b ++ v70.drop (12 + b.length) := ⟨_, rfl⟩
 have hl87 : v85.length = 128 := (congrArg List.length e86).trans ((copy_len (by have := hl72; omega)).trans hl72)
 rw [← e86] at b79
 refine wp_region_lit ?_
 refine qv 0 (.slice (some ⟨g5, 124, none⟩) 4 4) F82 rfl (rn_arrLo (l := 124) Try.underlying89 inf5 (F82.get rfl) rfl (by omega)) fun _ F89 => ?_; clear F82
 refine qv 1 (.int .u64 (n : Nat)) F89 rfl (rn_move (F89.get rfl)) fun _ F91 => ?_; clear F89
 refine wpl_op (i := 2) rfl (o_call F91 rfl rfl rfl rfl (rn_call (args2 (F91.get rfl) (F91.get rfl)) rfl (by kernel_rfl)) (put_any g5 v85 124 4 4 n _ b79 (by have := hl87; omega) (by omega) (by omega)) ?_)
 rintro _ w92 ⟨rfl, b93, hg94⟩
 refine ⟨_, rfl, ?_⟩; intro a95 F96; clear F91; have z97 := hg94.size
 refine wpList_nil ?_
 refine hK84 _ _ ?_
 clear hK84
 have F98 := ((((((F96.nil.c F96 9 rfl).c F96 8 rfl).c F96 3 rfl).c F96 2 rfl).c F96 1 rfl).c F96 0 rfl)
 clear F96
 refine wp_seq_k (fun K99 hK99 => ?_)
 obtain ⟨v100, e101⟩ : ∃ z, z = putL v85 124 4 n := ⟨_, rfl⟩
 have hl102 : v100.length = 128 := (congrArg List.length e101).trans ((putL_len _ _ _ _).trans hl87)
 rw [← e101] at b93
 have hx104 : ∃ W, w92.drew = W ∧ Ext w92 W := ⟨_, rfl, (Ext.refl _).drew⟩
 obtain ⟨w103, e105, hx104⟩ := hx104
 have z106 := hx104.size
 refine any_start (fun W => Ext w103 W ∧ Blk W g5 89 (byteVals v100)) (fun i => i == 4) 5 #[false, false, false, false, false] rfl rfl rfl ?_
 rw [e105]; clear e105
 refine qp 0 (.slice (some ⟨g5, 4, none⟩) 4 124) F98 rfl rfl (fun W => (rn_arrLH (l := 4) (h := 8) Try.underlying89 inf5 (F98.get rfl) rfl rfl (by omega) (by omega) (by omega) rfl rfl rfl)) fun _ F108 => ?_; clear F98
 refine qp 1 (.slice (some ⟨g5, 8, none⟩) 116 120) F108 rfl rfl (fun W => (rn_arrLH (l := 8) (h := 124) Try.underlying89 inf5 (F108.get rfl) rfl rfl (by omega) (by omega) (by omega) rfl rfl rfl)) fun _ F110 => ?_; clear F108
 refine any_one (i := 2) (by decide +kernel) rfl ?_
 have b111 := (b93.ext hx104)
 have z112 := UInt32.toNat_lt (crc ((v100.drop 8).take 116))
 refine o_call F110 rfl rfl rfl rfl (rn_call (args1 (F110.get rfl)) rfl (by kernel_rfl)) (sum_at9 (v := (.slice (some ⟨g5, 8, none⟩) 116 120)) (m := 116) ((v100.drop 8).take 116) _ (Fl.midB (S := fun b => b = g5) b111 (by have := hl102; omega) (by omega) rfl)) ?_
 rintro _ w113 ⟨rfl, hx114⟩
 refine ⟨_, rfl, ?_⟩; intro a115 F116; clear F110; have z117 := hx114.size
 have b118 := (b111.ext hx114)
 refine ⟨fun _ _ => ⟨((Ext.refl w103).trans hx114), b118⟩, ?_⟩
 have hS119 : Ext w103 w113 ∧ Blk w113 g5 89 (byteVals v100) := ⟨((Ext.refl w103).trans hx114), b118⟩
 refine qs 3 (.int .u64 ((crc ((v100.drop 8).take 116)).toNat : Nat)) F116 rfl rfl hS119 (fun W hW => (rn_convW Try.underlying91 Try.underlying68 (F116.get rfl) (cvn_64 ((crc ((v100.drop 8).take 116)).toNat) (by omega)))) fun _ F121 => ?_; clear F116
 refine any_one (i := 4) (by decide +kernel) rfl ?_
 refine o_call F121 rfl rfl rfl rfl (rn_call (args2 (F121.get rfl) (F121.get rfl)) rfl (by kernel_rfl)) (put_any g5 v100 4 4 124 ((crc ((v100.drop 8).take 116)).toNat) _ b118 (by have := hl102; omega) (by omega) (by omega)) ?_
 rintro _ w122 ⟨rfl, b123, hg124⟩
 refine ⟨_, rfl, ?_⟩; intro a125 F126; clear F121; have z127 := hg124.size
 refine ⟨fun h => absurd h (by decide), ?_⟩
 refine any_nil (by decide +kernel) ?_
 refine hK99 _ _ ?_
 clear hK99
 have F128 := ((((((F126.nil.c F126 9 rfl).c F126 8 rfl).c F126 3 rfl).c F126 2 rfl).c F126 1 rfl).c F126 0 rfl)
 clear F126
 refine wp_seq_k (fun K129 hK129 => ?_)
 obtain ⟨v130, e131⟩ : ∃ z, z = putL v100 4 4 ((crc ((v100.drop 8).take 116)).toNat) := ⟨_, rfl⟩
 have hl132 : v130.length = 128 := (congrArg List.length e131).trans ((putL_len _ _ _ _).trans hl102)
 rw [← e131] at b123
 refine wp_region_lit ?_
 refine qv 0 (.slice (some ⟨g5, 0, none⟩) 128 128) F128 rfl (rn_arrAll Try.underlying89 inf5 (F128.get rfl)) fun _ F134 => ?_; clear F128
 refine qv 1 (.slice (some ⟨g5, 0, none⟩) 128 128) F134 rfl (rn_assign (F134.get rfl)) fun _ F136 => ?_; clear F134
 refine wpList_nil ?_
 refine hK129 _ _ ?_
 clear hK129
 refine wp_ret ?_
 refine ret1 F136 rfl rfl ?_
 have he := enc_eq (g := n) (k := k) (q := q) hq e26 e43 e68 e71 e86 e101 e131
 exact ⟨_, by omega, rfl, (by rw [← he]; exact b123), (((((((((((Ext.refl w).trans hx8).grownN hg20 (by omega)).grownN hg36 (by omega)).grownN hg57 (by omega)).grownN hg63 (by omega)).grownN hg80 (by omega)).grownN hg94 (by omega)).trans hx104).trans hx114).grownN hg124 (by omega))⟩

theorem encode_at {v : Value} {m : Nat} (n k : Nat) (q : UInt8) (b : List UInt8) (w : World) (hf : Fl S w 1 v m (byteVals b)) (hq : m ≤ 112) (hn : n < 18446744073709551616) (hk : k < 65536) :
  Calls Try.prog 44 #[.int .u64 (n : Nat), .int .i64 (k : Nat), .int .u8 (q.toNat : Nat), v] w (fun e w' => ∃ g, w.heap.size ≤ g ∧ e = .returned (.slice (some ⟨g, 0, none⟩) 128 128) ∧ Blk w' g 89 (byteVals (encL n k q b)) ∧ Ext w w') := by
 have h1 := hf.blen
 subst h1
 obtain ⟨A, c, rfl, _⟩ := hf.form
 exact encode_any n k q A c b w hf hq hn hk

end Go.Proofs.Ytfmhnplkpohogaa

namespace Go.Proofs.Ytfmhnplkpohogaa
open Go.RowKit

variable {S S' : Nat → Prop}

set_option maxRecDepth 100000 in
set_option maxHeartbeats 1000000 in
theorem good_any (A : Option Addr) (c : Nat) (s : List UInt8) (k : Nat) (w : World) (hf : Fl S w 1 (.slice A s.length c) s.length (byteVals s)) (hs : s.length = 128) (hk : k < 65536) :
  Calls Try.prog 61 #[.slice A s.length c, .int .i64 (k : Nat)] w (fun e w' => e = .returned (.bool (goodS s k)) ∧ Ext w w') := by
 have hc : Fl (Clip S w) w 1 (.slice A s.length c) s.length (byteVals s) := hf.clip
 have hcc := (Fl.cel hc).2.1
 refine calls_enter (l := [(.slice A s.length c), (.int .i64 (k : Nat))]) Try.func61 rfl rfl rfl (fun aA hF => ?_)
 refine wp_seq_k (fun K1 hK1 => ?_)
 refine wp_region_lit ?_
 refine qv 0 (.bool false) hF rfl (rn_assign rfl) fun _ F3 => ?_; clear hF
 refine wpList_nil ?_
 refine hK1 _ _ ?_
 clear hK1
 refine wp_seq_k (fun K4 hK4 => ?_)
 refine wp_region_lit ?_
 refine qv 0 (.slice A s.length c) F3 rfl (rn_move (F3.get rfl)) fun _ F6 => ?_; clear F3
 obtain ⟨b7, o8, hA9, -⟩ := Fl.at hc (by omega)
 refine qv 1 (.pointer (some ⟨b7, o8 + 11, none⟩)) F6 rfl (rn_index1 Try.underlying35 inf5 ((F6.get rfl).trans (by rw [hA9])) rfl (by omega : (0 : Int) ≤ 11) (by omega : (11 : Int) < ((s.length : Nat) : Int))) fun _ F11 => ?_; clear F6
 refine qv 2 (.int .u8 ((s.getD 11 0).toNat : Nat)) F11 rfl (rn_load (isAgg_no Try.underlying5 rfl) (F11.get rfl) (Fl.cellAt hc hA9 (byteVals_at (i := 11) (by omega)))) fun _ F13 => ?_; clear F11
 have z14 := UInt8.toNat_lt (s.getD 11 0)
 refine qv 3 (.int .i64 ((s.getD 11 0).toNat : Nat)) F13 rfl (rn_convW Try.underlying5 Try.underlying3 (F13.get rfl) (cv8_64 (s.getD 11 0))) fun _ F16 => ?_; clear F13
 refine qv 4 (.int .i64 ((s.getD 11 0).toNat : Nat)) F16 rfl (rn_assign (F16.get rfl)) fun _ F18 => ?_; clear F16
 refine wpList_nil ?_
 refine hK4 _ _ ?_
 clear hK4
 have F19 := ((((F18.nil.c F18 5 rfl).c F18 4 rfl).c F18 1 rfl).c F18 0 rfl)
 clear F18
 refine wp_seq_k (fun K20 hK20 => ?_)
 refine wp_seq_k (fun K21 hK21 => ?_)
 have z22 := and2_fact (s.getD 10 0)
 have z23 := and1_fact (s.getD 10 0)
 have z24 := UInt8.toNat_lt (s.getD 10 0)
 refine wp_region_lit ?_
 refine qv 0 (.int .i64 ((s.getD 11 0).toNat : Nat)) F19 rfl (rn_move (F19.get rfl)) fun _ F26 => ?_; clear F19
 refine qv 1 (.bool (decide ((112 : Int) < (((s.getD 11 0).toNat : Nat) : Int)))) F26 rfl (rn_gtr (F26.get rfl) rfl) fun _ F28 => ?_; clear F26
 refine qv 2 (.bool (decide ((112 : Int) < (((s.getD 11 0).toNat : Nat) : Int)))) F28 rfl (rn_move (F28.get rfl)) fun _ F30 => ?_; clear F28
 by_cases hc31 : (112 : Int) < (((s.getD 11 0).toNat : Nat) : Int)
 ·skip
  refine qu 3 F30 (decide_eq_true hc31) fun _ F33 => ?_; clear F30
  refine qu 4 F33 (decide_eq_true hc31) fun _ F35 => ?_; clear F33
  refine qu 5 F35 (decide_eq_true hc31) fun _ F37 => ?_; clear F35
  refine qu 6 F37 (decide_eq_true hc31) fun _ F39 => ?_; clear F37
  refine qv 7 (.bool true) F39 rfl (rn_pickT (c_true F39 rfl (decide_eq_true hc31)) rfl) fun _ F41 => ?_; clear F39
  refine qv 8 (.bool true) F41 rfl (rn_move (F41.get rfl)) fun _ F43 => ?_; clear F41
  refine qu 9 F43 rfl fun _ F45 => ?_; clear F43
  refine qu 10 F45 rfl fun _ F47 => ?_; clear F45
  refine qu 11 F47 rfl fun _ F49 => ?_; clear F47
  refine qu 12 F49 rfl fun _ F51 => ?_; clear F49
  refine qu 13 F51 rfl fun _ F53 => ?_; clear F51
  refine qu 14 F53 rfl fun _ F55 => ?_; clear F53
  refine wpl_op (i := 15) rfl (o_skip F55 rfl (unwanted_undef rfl rfl rfl F55 rfl) rfl rfl ?_)
  intro a56 F57; clear F55
  refine wpl_op (i := 16) rfl (o_skip F57 rfl (unwanted_undef rfl rfl rfl F57 rfl) rfl rfl ?_)
  intro a58 F59; clear F57
  refine qu 17 F59 rfl fun _ F61 => ?_; clear F59
  refine qv 18 (.bool true) F61 rfl (rn_pickT (c_true F61 rfl rfl) rfl) fun _ F63 => ?_; clear F61
  refine qv 19 (.bool true) F63 rfl (rn_move (F63.get rfl)) fun _ F65 => ?_; clear F63
  refine qu 20 F65 rfl fun _ F67 => ?_; clear F65
  refine qu 21 F67 rfl fun _ F69 => ?_; clear F67
  refine qu 22 F69 rfl fun _ F71 => ?_; clear F69
  refine qu 23 F71 rfl fun _ F73 => ?_; clear F71
  refine qu 24 F73 rfl fun _ F75 => ?_; clear F73
  refine qu 25 F75 rfl fun _ F77 => ?_; clear F75
  refine wpl_op (i := 26) rfl (o_skip F77 rfl (unwanted_undef rfl rfl rfl F77 rfl) rfl rfl ?_)
  intro a78 F79; clear F77
  refine wpl_op (i := 27) rfl (o_skip F79 rfl (unwanted_undef rfl rfl rfl F79 rfl) rfl rfl ?_)
  intro a80 F81; clear F79
  refine qu 28 F81 rfl fun _ F83 => ?_; clear F81
  refine qv 29 (.bool true) F83 rfl (rn_pickT (c_true F83 rfl rfl) rfl) fun _ F85 => ?_; clear F83
  refine wpList_nil ?_
  refine hK21 _ _ ?_
  clear hK21
  have F86 := (((((F85.nil.c F85 40 rfl).c F85 5 rfl).c F85 4 rfl).c F85 1 rfl).c F85 0 rfl)
  clear F85
  refine wp_cond_true (c_true F86 rfl rfl) ?_
  refine wp_seq_k (fun K87 hK87 => ?_)
  refine wp_region_lit ?_
  refine qv 0 (.bool false) F86 rfl (rn_assign rfl) fun _ F89 => ?_; clear F86
  refine wpList_nil ?_
  refine hK87 _ _ ?_
  clear hK87
  refine wp_ret ?_
  refine ret_then ?_
  refine ret1 F89 rfl rfl ?_
  exact ⟨by rw [goodS_bad (show ¬ kindOk (s.getD 11 0).toNat (s.getD 10 0) by unfold kindOk; omega)], (Ext.refl w)⟩
 ·skip
  refine qg 3 (.slice A s.length c) F30 (decide_eq_false hc31) (rn_move (F30.get rfl)) fun _ F91 => ?_; clear F30
  refine qg 4 (.pointer (some ⟨b7, o8 + 10, none⟩)) F91 (decide_eq_false hc31) (rn_index1 Try.underlying35 inf5 ((F91.get rfl).trans (by rw [hA9])) rfl (by omega : (0 : Int) ≤ 10) (by omega : (10 : Int) < ((s.length : Nat) : Int))) fun _ F93 => ?_; clear F91
  refine qg 5 (.int .u8 ((s.getD 10 0).toNat : Nat)) F93 (decide_eq_false hc31) (rn_load (isAgg_no Try.underlying5 rfl) (F93.get rfl) (Fl.cellAt hc hA9 (byteVals_at (i := 10) (by omega)))) fun _ F95 => ?_; clear F93
  refine qg 6 (.bool (decide ((3 : Int) < (((s.getD 10 0).toNat : Nat) : Int)))) F95 (decide_eq_false hc31) (rn_gtr (F95.get rfl) rfl) fun _ F97 => ?_; clear F95
  refine qv 7 (.bool (decide ((3 : Int) < (((s.getD 10 0).toNat : Nat) : Int)))) F97 rfl (rn_pickF (c_false F97 rfl (decide_eq_false hc31)) (F97.get rfl)) fun _ F99 => ?_; clear F97
  refine qv 8 (.bool (decide ((3 : Int) < (((s.getD 10 0).toNat : Nat) : Int)))) F99 rfl (rn_move (F99.get rfl)) fun _ F101 => ?_; clear F99
  by_cases hc102 : (3 : Int) < (((s.getD 10 0).toNat : Nat) : Int)
  ·skip
   refine qu 9 F101 (decide_eq_true hc102) fun _ F104 => ?_; clear F101
   refine qu 10 F104 (decide_eq_true hc102) fun _ F106 => ?_; clear F104
   refine qu 11 F106 (decide_eq_true hc102) fun _ F108 => ?_; clear F106
   refine qu 12 F108 (decide_eq_true hc102) fun _ F110 => ?_; clear F108
   refine qu 13 F110 (decide_eq_true hc102) fun _ F112 => ?_; clear F110
   refine qu 14 F112 (decide_eq_true hc102) fun _ F114 => ?_; clear F112
   refine wpl_op (i := 15) rfl (o_skip F114 rfl (unwanted_undef rfl rfl rfl F114 rfl) rfl rfl ?_)
   intro a115 F116; clear F114
   refine wpl_op (i := 16) rfl (o_skip F116 rfl (unwanted_undef rfl rfl rfl F116 rfl) rfl rfl ?_)
   intro a117 F118; clear F116
   refine qu 17 F118 (decide_eq_true hc102) fun _ F120 => ?_; clear F118
   refine qv 18 (.bool true) F120 rfl (rn_pickT (c_true F120 rfl (decide_eq_true hc102)) rfl) fun _ F122 => ?_; clear F120
   refine qv 19 (.bool true) F122 rfl (rn_move (F122.get rfl)) fun _ F124 => ?_; clear F122
   refine qu 20 F124 rfl fun _ F126 => ?_; clear F124
   refine qu 21 F126 rfl fun _ F128 => ?_; clear F126
   refine qu 22 F128 rfl fun _ F130 => ?_; clear F128
   refine qu 23 F130 rfl fun _ F132 => ?_; clear F130
   refine qu 24 F132 rfl fun _ F134 => ?_; clear F132
   refine qu 25 F134 rfl fun _ F136 => ?_; clear F134
   refine wpl_op (i := 26) rfl (o_skip F136 rfl (unwanted_undef rfl rfl rfl F136 rfl) rfl rfl ?_)
   intro a137 F138; clear F136
   refine wpl_op (i := 27) rfl (o_skip F138 rfl (unwanted_undef rfl rfl rfl F138 rfl) rfl rfl ?_)
   intro a139 F140; clear F138
   refine qu 28 F140 rfl fun _ F142 => ?_; clear F140
   refine qv 29 (.bool true) F142 rfl (rn_pickT (c_true F142 rfl rfl) rfl) fun _ F144 => ?_; clear F142
   refine wpList_nil ?_
   refine hK21 _ _ ?_
   clear hK21
   have F145 := (((((F144.nil.c F144 40 rfl).c F144 5 rfl).c F144 4 rfl).c F144 1 rfl).c F144 0 rfl)
   clear F144
   refine wp_cond_true (c_true F145 rfl rfl) ?_
   refine wp_seq_k (fun K146 hK146 => ?_)
   refine wp_region_lit ?_
   refine qv 0 (.bool false) F145 rfl (rn_assign rfl) fun _ F148 => ?_; clear F145
   refine wpList_nil ?_
   refine hK146 _ _ ?_
   clear hK146
   refine wp_ret ?_
   refine ret_then ?_
   refine ret1 F148 rfl rfl ?_
   exact ⟨by rw [goodS_bad (show ¬ kindOk (s.getD 11 0).toNat (s.getD 10 0) by unfold kindOk; omega)], (Ext.refl w)⟩
  ·skip
   refine qg 9 (.slice A s.length c) F101 (decide_eq_false hc102) (rn_move (F101.get rfl)) fun _ F150 => ?_; clear F101
   refine qg 10 (.pointer (some ⟨b7, o8 + 10, none⟩)) F150 (decide_eq_false hc102) (rn_index1 Try.underlying35 inf5 ((F150.get rfl).trans (by rw [hA9])) rfl (by omega : (0 : Int) ≤ 10) (by omega : (10 : Int) < ((s.length : Nat) : Int))) fun _ F152 => ?_; clear F150
   refine qg 11 (.int .u8 ((s.getD 10 0).toNat : Nat)) F152 (decide_eq_false hc102) (rn_load (isAgg_no Try.underlying5 rfl) (F152.get rfl) (Fl.cellAt hc hA9 (byteVals_at (i := 10) (by omega)))) fun _ F154 => ?_; clear F152
   refine qg 12 (.int .u8 (((s.getD 10 0) &&& (2 : UInt8)).toNat : Nat)) F154 (decide_eq_false hc102) (rn_and8 (a := (s.getD 10 0)) (b := (2 : UInt8)) (F154.get rfl) rfl) fun _ F156 => ?_; clear F154
   refine qg 13 (.bool (decide (((((s.getD 10 0) &&& (2 : UInt8)).toNat : Nat) : Int) = (0 : Int)))) F156 (decide_eq_false hc102) (rn_eql (F156.get rfl) rfl) fun _ F158 => ?_; clear F156
   refine qg 14 (.bool (decide (((((s.getD 10 0) &&& (2 : UInt8)).toNat : Nat) : Int) = (0 : Int)))) F158 (decide_eq_false hc102) (rn_move (F158.get rfl)) fun _ F160 => ?_; clear F158
   by_cases hc161 : ((((s.getD 10 0) &&& (2 : UInt8)).toNat : Nat) : Int) = (0 : Int)
   ·skip
    refine qg 15 (.int .i64 ((s.getD 11 0).toNat : Nat)) F160 (decide_eq_true hc161) (rn_move (F160.get rfl)) fun _ F163 => ?_; clear F160
    refine qg 16 (.bool (decide ((((s.getD 11 0).toNat : Nat) : Int) < (112 : Int)))) F163 (decide_eq_true hc161) (rn_lss (F163.get rfl) rfl) fun _ F165 => ?_; clear F163
    refine qg 17 (.bool (decide ((((s.getD 11 0).toNat : Nat) : Int) < (112 : Int)))) F165 (decide_eq_false hc102) (rn_pickT (c_true F165 rfl (decide_eq_true hc161)) (F165.get rfl)) fun _ F167 => ?_; clear F165
    refine qv 18 (.bool (decide ((((s.getD 11 0).toNat : Nat) : Int) < (112 : Int)))) F167 rfl (rn_pickF (c_false F167 rfl (decide_eq_false hc102)) (F167.get rfl)) fun _ F169 => ?_; clear F167
    refine qv 19 (.bool (decide ((((s.getD 11 0).toNat : Nat) : Int) < (112 : Int)))) F169 rfl (rn_move (F169.get rfl)) fun _ F171 => ?_; clear F169
    by_cases hc172 : (((s.getD 11 0).toNat : Nat) : Int) < (112 : Int)
    ·skip
     refine qu 20 F171 (decide_eq_true hc172) fun _ F174 => ?_; clear F171
     refine qu 21 F174 (decide_eq_true hc172) fun _ F176 => ?_; clear F174
     refine qu 22 F176 (decide_eq_true hc172) fun _ F178 => ?_; clear F176
     refine qu 23 F178 (decide_eq_true hc172) fun _ F180 => ?_; clear F178
     refine qu 24 F180 (decide_eq_true hc172) fun _ F182 => ?_; clear F180
     refine qu 25 F182 (decide_eq_true hc172) fun _ F184 => ?_; clear F182
     refine wpl_op (i := 26) rfl (o_skip F184 rfl (unwanted_undef rfl rfl rfl F184 rfl) rfl rfl ?_)
     intro a185 F186; clear F184
     refine wpl_op (i := 27) rfl (o_skip F186 rfl (unwanted_undef rfl rfl rfl F186 rfl) rfl rfl ?_)
     intro a187 F188; clear F186
     refine qu 28 F188 (decide_eq_true hc172) fun _ F190 => ?_; clear F188
     refine qv 29 (.bool true) F190 rfl (rn_pickT (c_true F190 rfl (decide_eq_true hc172)) rfl) fun _ F192 => ?_; clear F190
     refine wpList_nil ?_
     refine hK21 _ _ ?_
     clear hK21
     have F193 := (((((F192.nil.c F192 40 rfl).c F192 5 rfl).c F192 4 rfl).c F192 1 rfl).c F192 0 rfl)
     clear F192
     refine wp_cond_true (c_true F193 rfl rfl) ?_
     refine wp_seq_k (fun K194 hK194 => ?_)
     refine wp_region_lit ?_
     refine qv 0 (.bool false) F193 rfl (rn_assign rfl) fun _ F196 => ?_; clear F193
     refine wpList_nil ?_
     refine hK194 _ _ ?_
     clear hK194
     refine wp_ret ?_
     refine ret_then ?_
     refine ret1 F196 rfl rfl ?_
     exact ⟨by rw [goodS_bad (show ¬ kindOk (s.getD 11 0).toNat (s.getD 10 0) by unfold kindOk; omega)], (Ext.refl w)⟩
    ·skip
     refine qg 20 (.slice A s.length c) F171 (decide_eq_false hc172) (rn_move (F171.get rfl)) fun _ F198 => ?_; clear F171
     refine qg 21 (.pointer (some ⟨b7, o8 + 10, none⟩)) F198 (decide_eq_false hc172) (rn_index1 Try.underlying35 inf5 ((F198.get rfl).trans (by rw [hA9])) rfl (by omega : (0 : Int) ≤ 10) (by omega : (10 : Int) < ((s.length : Nat) : Int))) fun _ F200 => ?_; clear F198
     refine qg 22 (.int .u8 ((s.getD 10 0).toNat : Nat)) F200 (decide_eq_false hc172) (rn_load (isAgg_no Try.underlying5 rfl) (F200.get rfl) (Fl.cellAt hc hA9 (byteVals_at (i := 10) (by omega)))) fun _ F202 => ?_; clear F200
     refine qg 23 (.int .u8 (((s.getD 10 0) &&& (1 : UInt8)).toNat : Nat)) F202 (decide_eq_false hc172) (rn_and8 (a := (s.getD 10 0)) (b := (1 : UInt8)) (F202.get rfl) rfl) fun _ F204 => ?_; clear F202
     refine qg 24 (.bool (decide (((((s.getD 10 0) &&& (1 : UInt8)).toNat : Nat) : Int) = (0 : Int)))) F204 (decide_eq_false hc172) (rn_eql (F204.get rfl) rfl) fun _ F206 => ?_; clear F204
     refine qg 25 (.bool (decide (((((s.getD 10 0) &&& (1 : UInt8)).toNat : Nat) : Int) = (0 : Int)))) F206 (decide_eq_false hc172) (rn_move (F206.get rfl)) fun _ F208 => ?_; clear F206
     by_cases hc209 : ((((s.getD 10 0) &&& (1 : UInt8)).toNat : Nat) : Int) = (0 : Int)
     ·skip
      refine qg 26 (.int .i64 ((s.getD 11 0).toNat : Nat)) F208 (decide_eq_true hc209) (rn_move (F208.get rfl)) fun _ F211 => ?_; clear F208
      refine qg 27 (.bool (decide ((((s.getD 11 0).toNat : Nat) : Int) = (0 : Int)))) F211 (decide_eq_true hc209) (rn_eql (F211.get rfl) rfl) fun _ F213 => ?_; clear F211
      refine qg 28 (.bool (decide ((((s.getD 11 0).toNat : Nat) : Int) = (0 : Int)))) F213 (decide_eq_false hc172) (rn_pickT (c_true F213 rfl (decide_eq_true hc209)) (F213.get rfl)) fun _ F215 => ?_; clear F213
      refine qv 29 (.bool (decide ((((s.getD 11 0).toNat : Nat) : Int) = (0 : Int)))) F215 rfl (rn_pickF (c_false F215 rfl (decide_eq_false hc172)) (F215.get rfl)) fun _ F217 => ?_; clear F215
      refine wpList_nil ?_
      refine hK21 _ _ ?_
      clear hK21
      have F218 := (((((F217.nil.c F217 40 rfl).c F217 5 rfl).c F217 4 rfl).c F217 1 rfl).c F217 0 rfl)
      clear F217
      by_cases hc219 : (((s.getD 11 0).toNat : Nat) : Int) = (0 : Int)
      ·skip
       refine wp_cond_true (c_true F218 rfl (decide_eq_true hc219)) ?_
       refine wp_seq_k (fun K220 hK220 => ?_)
       refine wp_region_lit ?_
       refine qv 0 (.bool false) F218 rfl (rn_assign rfl) fun _ F222 => ?_; clear F218
       refine wpList_nil ?_
       refine hK220 _ _ ?_
       clear hK220
       refine wp_ret ?_
       refine ret_then ?_
       refine ret1 F222 rfl rfl ?_
       exact ⟨by rw [goodS_bad (show ¬ kindOk (s.getD 11 0).toNat (s.getD 10 0) by unfold kindOk; omega)], (Ext.refl w)⟩
      ·skip
       refine wp_cond_false (c_false F218 rfl (decide_eq_false hc219)) ?_
       refine wp_skip ?_
       refine hK20 _ _ ?_
       clear hK20
       refine wp_seq_k (fun K223 hK223 => ?_)
       refine wp_region_lit ?_
       refine qv 0 (.slice A s.length c) F218 rfl (rn_move (F218.get rfl)) fun _ F225 => ?_; clear F218
       refine qv 1 (.slice A 4 c) F225 rfl (rn_sliceHi Try.underlying35 inf5 (F225.get rfl) rfl (by omega : (0 : Int) ≤ 4) (by omega : (4 : Int) ≤ ((c : Nat) : Int))) fun _ F227 => ?_; clear F225
       have hf228 := (Fl.take_eq (j := 4) hc (by omega) (byteVals_take1 _ _))
       have z229 := num_lt4 (l := s.take 4) (by have := Fl.blen hf228; omega)
       refine wpl_op (i := 2) rfl (o_call F227 rfl rfl rfl rfl (rn_call (args1 (F227.get rfl)) rfl (by kernel_rfl)) (get_at (v := (.slice A 4 c)) (m := 4) (s.take 4) _ hf228 (by omega)) ?_)
       rintro _ w230 ⟨rfl, hx231⟩
       refine ⟨_, rfl, ?_⟩; intro a232 F233; clear F227; have z234 := hx231.size
       refine qv 3 (.int .u64 (num (s.take 4) : Nat)) F233 rfl (rn_assign (F233.get rfl)) fun _ F236 => ?_; clear F233
       refine wpList_nil ?_
       refine hK223 _ _ ?_
       clear hK223
       refine wp_seq_k (fun K237 hK237 => ?_)
       have hx239 : ∃ W, w230.drew = W ∧ Ext w230 W := ⟨_, rfl, (Ext.refl _).drew⟩
       obtain ⟨w238, e240, hx239⟩ := hx239
       have z241 := hx239.size
       refine any_start (fun W => Ext w238 W) (fun i => false) 17 #[false, false, false, false, false, false, false, false, false, false, false, false, false, false, false, false, false] rfl rfl rfl ?_
       rw [e240]; clear e240
       refine qp 0 (.int .u64 (num (s.take 4) : Nat)) F236 rfl rfl (fun W => (rn_move (F236.get rfl))) fun _ F243 => ?_; clear F236
       refine qp 1 (.bool (decide ((0 : Int) < ((num (s.take 4) : Nat) : Int)))) F243 rfl rfl (fun W => (rn_gtr (F243.get rfl) rfl)) fun _ F245 => ?_; clear F243
       refine qp 2 (.bool (decide ((0 : Int) < ((num (s.take 4) : Nat) : Int)))) F245 rfl rfl (fun W => (rn_move (F245.get rfl))) fun _ F247 => ?_; clear F245
       by_cases hc248 : (0 : Int) < ((num (s.take 4) : Nat) : Int)
       ·skip
        refine qp 3 (.slice A s.length c) F247 rfl (wanted_guard rfl rfl rfl F247 rfl (decide_eq_true hc248) rfl) (fun W => (rn_move (F247.get rfl))) fun _ F250 => ?_; clear F247
        refine qp 4 (.int .u64 (num (s.take 4) : Nat)) F250 rfl (wanted_guard rfl rfl rfl F250 rfl (decide_eq_true hc248) rfl) (fun W => (rn_move (F250.get rfl))) fun _ F252 => ?_; clear F250
        refine qp 5 (.int .i64 (k : Nat)) F252 rfl (wanted_guard rfl rfl rfl F252 rfl (decide_eq_true hc248) rfl) (fun W => (rn_move (F252.get rfl))) fun _ F254 => ?_; clear F252
        refine qp 6 (.slice A s.length c) F254 rfl (wanted_guard rfl rfl rfl F254 rfl (decide_eq_true hc248) rfl) (fun W => (rn_move (F254.get rfl))) fun _ F256 => ?_; clear F254
        refine qp 7 (.pointer (some ⟨b7, o8 + 10, none⟩)) F256 rfl (wanted_guard rfl rfl rfl F256 rfl (decide_eq_true hc248) rfl) (fun W => (rn_index1 Try.underlying35 inf5 ((F256.get rfl).trans (by rw [hA9])) rfl (by omega : (0 : Int) ≤ 10) (by omega : (10 : Int) < ((s.length : Nat) : Int)))) fun _ F258 => ?_; clear F256
        have hS259 : Ext w238 w238 := (Ext.refl w238)
        have d260 := ((hc.ext hx231).ext hx239)
        refine qs 8 (.int .u8 ((s.getD 10 0).toNat : Nat)) F258 rfl (wanted_guard rfl rfl rfl F258 rfl (decide_eq_true hc248) rfl) hS259 (fun W hW => (rn_load (isAgg_no Try.underlying5 rfl) (F258.get rfl) (Fl.cellAt (d260.ext hW) hA9 (byteVals_at (i := 10) (by omega))))) fun _ F262 => ?_; clear F258
        refine qp 9 (.slice A s.length c) F262 rfl (wanted_guard rfl rfl rfl F262 rfl (decide_eq_true hc248) rfl) (fun W => (rn_move (F262.get rfl))) fun _ F264 => ?_; clear F262
        refine qp 10 (.int .i64 ((s.getD 11 0).toNat : Nat)) F264 rfl (wanted_guard rfl rfl rfl F264 rfl (decide_eq_true hc248) rfl) (fun W => (rn_move (F264.get rfl))) fun _ F266 => ?_; clear F264
        refine qp 11 (.int .i64 (12 + ((s.getD 11 0).toNat) : Nat)) F266 rfl (wanted_guard rfl rfl rfl F266 rfl (decide_eq_true hc248) rfl) (fun W => (rn_addN (a := 12) (b := (s.getD 11 0).toNat) rfl (F266.get rfl) (by omega))) fun _ F268 => ?_; clear F266
        refine qp 12 (.slice (some ⟨b7, o8 + 12 * 1, none⟩) ((s.getD 11 0).toNat) (c - 12)) F268 rfl (wanted_guard rfl rfl rfl F268 rfl (decide_eq_true hc248) rfl) (fun W => (rn_sliceLH (l := 12) (h := (12 + ((s.getD 11 0).toNat))) Try.underlying35 inf5 ((F268.get rfl).trans (by rw [hA9])) rfl (F268.get rfl) (by omega) (by omega) (by omega) (by omega))) fun _ F270 => ?_; clear F268
        refine any_one (i := 13) (by decide +kernel) rfl ?_
        have hf274 := (Fl.mid_eq (j := 12) (m' := (s.getD 11 0).toNat) d260 hA9 (by omega) (by omega) (byteVals_mid _ _ _))
        refine o_call F270 rfl (wanted_guard rfl rfl rfl F270 rfl (decide_eq_true hc248) rfl) rfl rfl (rn_call (args4 (F270.get rfl) (F270.get rfl) (F270.get rfl) (F270.get rfl)) rfl (by kernel_rfl)) (encode_at (v := (.slice (some ⟨b7, o8 + 12 * 1, none⟩) ((s.getD 11 0).toNat) (c - 12))) (m := (s.getD 11 0).toNat) (num (s.take 4)) k (s.getD 10 0) ((s.drop 12).take ((s.getD 11 0).toNat)) _ (Fl.mid_eq (j := 12) (m' := (s.getD 11 0).toNat) d260 hA9 (by omega) (by omega) (byteVals_mid _ _ _)) (by omega) (by omega) (by omega)) ?_
        rintro _ w275 ⟨g271, z272, rfl, b273, hx276⟩
        refine ⟨_, rfl, ?_⟩; intro a277 F278; clear F270; have z279 := hx276.size
        have z280 := b273.lt
        refine ⟨fun _ _ => ((Ext.refl w238).trans hx276), ?_⟩
        refine any_one (i := 14) (by decide +kernel) rfl ?_
        have d281 := (((hc.ext hx231).ext hx239).ext hx276)
        refine o_call F278 rfl (wanted_guard rfl rfl rfl F278 rfl (decide_eq_true hc248) rfl) rfl rfl (rn_call (args2 (F278.get rfl) (F278.get rfl)) rfl (by kernel_rfl)) (beq_at (v := (.slice A s.length c)) (u := (.slice (some ⟨g271, 0, none⟩) 128 128)) (n := s.length) (m := 128) s (encL (num (s.take 4)) k (s.getD 10 0) ((s.drop 12).take ((s.getD 11 0).toNat))) _ d281 (Fl.blk (S := fun b => b = g271) (k := 1) (n := 128) (c := 128) b273 (by rw [byteVals_len (encL_len (by have := Fl.blen hf274; omega)), Nat.mul_one]) (byteVals_one _) (by omega) rfl)) ?_
        rintro _ w282 ⟨rfl, hx283⟩
        refine ⟨_, rfl, ?_⟩; intro a284 F285; clear F278; have z286 := hx283.size
        refine ⟨fun _ _ => (((Ext.refl w238).trans hx276).trans hx283), ?_⟩
        refine qp 15 (.bool (decide (s = encL (num (s.take 4)) k (s.getD 10 0) ((s.drop 12).take ((s.getD 11 0).toNat))))) F285 rfl rfl (fun W => (rn_pickT (c_true F285 rfl (decide_eq_true hc248)) (F285.get rfl))) fun _ F288 => ?_; clear F285
        refine qp 16 (.bool (decide (s = encL (num (s.take 4)) k (s.getD 10 0) ((s.drop 12).take ((s.getD 11 0).toNat))))) F288 rfl rfl (fun W => (rn_assign (F288.get rfl))) fun _ F290 => ?_; clear F288
        refine any_nil (by decide +kernel) ?_
        refine hK237 _ _ ?_
        clear hK237
        have F291 := ((((((F290.nil.c F290 6 rfl).c F290 40 rfl).c F290 5 rfl).c F290 4 rfl).c F290 1 rfl).c F290 0 rfl)
        clear F290
        refine wp_ret ?_
        refine ret1 F291 rfl rfl ?_
        exact ⟨congrArg (fun b => Ending.returned (.bool b)) (show (decide (s = encL (num (s.take 4)) k (s.getD 10 0) ((s.drop 12).take ((s.getD 11 0).toNat)))) = goodS s k from (goodS_eq (by show kindOk (s.getD 11 0).toNat (s.getD 10 0); unfold kindOk; omega) (by show 0 < num (s.take 4); omega)).symm), (((((Ext.refl w).trans hx231).trans hx239).trans hx276).trans hx283)⟩
       ·skip
        refine qk 3 F247 rfl (decide_eq_false hc248) fun _ F293 => ?_; clear F247
        refine qk 4 F293 rfl (decide_eq_false hc248) fun _ F295 => ?_; clear F293
        refine qk 5 F295 rfl (decide_eq_false hc248) fun _ F297 => ?_; clear F295
        refine qk 6 F297 rfl (decide_eq_false hc248) fun _ F299 => ?_; clear F297
        refine qk 7 F299 rfl (decide_eq_false hc248) fun _ F301 => ?_; clear F299
        refine qk 8 F301 rfl (decide_eq_false hc248) fun _ F303 => ?_; clear F301
        refine qk 9 F303 rfl (decide_eq_false hc248) fun _ F305 => ?_; clear F303
        refine qk 10 F305 rfl (decide_eq_false hc248) fun _ F307 => ?_; clear F305
        refine qk 11 F307 rfl (decide_eq_false hc248) fun _ F309 => ?_; clear F307
        refine qk 12 F309 rfl (decide_eq_false hc248) fun _ F311 => ?_; clear F309
        refine any_one (i := 13) (by decide +kernel) rfl ?_
        refine o_skip F311 rfl (unwanted_guard rfl rfl rfl F311 rfl (decide_eq_false hc248) rfl) rfl rfl ?_
        intro a312 F313; clear F311
        refine ⟨fun _ _ => (Ext.refl w238), ?_⟩
        refine any_one (i := 14) (by decide +kernel) rfl ?_
        refine o_skip F313 rfl (unwanted_guard rfl rfl rfl F313 rfl (decide_eq_false hc248) rfl) rfl rfl ?_
        intro a314 F315; clear F313
        refine ⟨fun _ _ => (Ext.refl w238), ?_⟩
        refine qp 15 (.bool false) F315 rfl rfl (fun W => (rn_pickF (c_false F315 rfl (decide_eq_false hc248)) rfl)) fun _ F317 => ?_; clear F315
        refine qp 16 (.bool false) F317 rfl rfl (fun W => (rn_assign (F317.get rfl))) fun _ F319 => ?_; clear F317
        refine any_nil (by decide +kernel) ?_
        refine hK237 _ _ ?_
        clear hK237
        have F320 := ((((((F319.nil.c F319 6 rfl).c F319 40 rfl).c F319 5 rfl).c F319 4 rfl).c F319 1 rfl).c F319 0 rfl)
        clear F319
        refine wp_ret ?_
        refine ret1 F320 rfl rfl ?_
        exact ⟨by rw [goodS_zero (show num (s.take 4) = 0 by omega)], (((Ext.refl w).trans hx231).trans hx239)⟩
     ·skip
      refine qu 26 F208 (decide_eq_false hc209) fun _ F322 => ?_; clear F208
      refine qu 27 F322 (decide_eq_false hc209) fun _ F324 => ?_; clear F322
      refine qg 28 (.bool false) F324 (decide_eq_false hc172) (rn_pickF (c_false F324 rfl (decide_eq_false hc209)) rfl) fun _ F326 => ?_; clear F324
      refine qv 29 (.bool false) F326 rfl (rn_pickF (c_false F326 rfl (decide_eq_false hc172)) (F326.get rfl)) fun _ F328 => ?_; clear F326
      refine wpList_nil ?_
      refine hK21 _ _ ?_
      clear hK21
      have F329 := (((((F328.nil.c F328 40 rfl).c F328 5 rfl).c F328 4 rfl).c F328 1 rfl).c F328 0 rfl)
      clear F328
      refine wp_cond_false (c_false F329 rfl rfl) ?_
      refine wp_skip ?_
      refine hK20 _ _ ?_
      clear hK20
      refine wp_seq_k (fun K330 hK330 => ?_)
      refine wp_region_lit ?_
      refine qv 0 (.slice A s.length c) F329 rfl (rn_move (F329.get rfl)) fun _ F332 => ?_; clear F329
      refine qv 1 (.slice A 4 c) F332 rfl (rn_sliceHi Try.underlying35 inf5 (F332.get rfl) rfl (by omega : (0 : Int) ≤ 4) (by omega : (4 : Int) ≤ ((c : Nat) : Int))) fun _ F334 => ?_; clear F332
      have hf335 := (Fl.take_eq (j := 4) hc (by omega) (byteVals_take1 _ _))
      have z336 := num_lt4 (l := s.take 4) (by have := Fl.blen hf335; omega)
      refine wpl_op (i := 2) rfl (o_call F334 rfl rfl rfl rfl (rn_call (args1 (F334.get rfl)) rfl (by kernel_rfl)) (get_at (v := (.slice A 4 c)) (m := 4) (s.take 4) _ hf335 (by omega)) ?_)
      rintro _ w337 ⟨rfl, hx338⟩
      refine ⟨_, rfl, ?_⟩; intro a339 F340; clear F334; have z341 := hx338.size
      refine qv 3 (.int .u64 (num (s.take 4) : Nat)) F340 rfl (rn_assign (F340.get rfl)) fun _ F343 => ?_; clear F340
      refine wpList_nil ?_
      refine hK330 _ _ ?_
      clear hK330
      refine wp_seq_k (fun K344 hK344 => ?_)
      have hx346 : ∃ W, w337.drew = W ∧ Ext w337 W := ⟨_, rfl, (Ext.refl _).drew⟩
      obtain ⟨w345, e347, hx346⟩ := hx346
      have z348 := hx346.size
      refine any_start (fun W => Ext w345 W) (fun i => false) 17 #[false, false, false, false, false, false, false, false, false, false, false, false, false, false, false, false, false] rfl rfl rfl ?_
      rw [e347]; clear e347
      refine qp 0 (.int .u64 (num (s.take 4) : Nat)) F343 rfl rfl (fun W => (rn_move (F343.get rfl))) fun _ F350 => ?_; clear F343
      refine qp 1 (.bool (decide ((0 : Int) < ((num (s.take 4) : Nat) : Int)))) F350 rfl rfl (fun W => (rn_gtr (F350.get rfl) rfl)) fun _ F352 => ?_; clear F350
      refine qp 2 (.bool (decide ((0 : Int) < ((num (s.take 4) : Nat) : Int)))) F352 rfl rfl (fun W => (rn_move (F352.get rfl))) fun _ F354 => ?_; clear F352
      by_cases hc355 : (0 : Int) < ((num (s.take 4) : Nat) : Int)
      ·skip
       refine qp 3 (.slice A s.length c) F354 rfl (wanted_guard rfl rfl rfl F354 rfl (decide_eq_true hc355) rfl) (fun W => (rn_move (F354.get rfl))) fun _ F357 => ?_; clear F354
       refine qp 4 (.int .u64 (num (s.take 4) : Nat)) F357 rfl (wanted_guard rfl rfl rfl F357 rfl (decide_eq_true hc355) rfl) (fun W => (rn_move (F357.get rfl))) fun _ F359 => ?_; clear F357
       refine qp 5 (.int .i64 (k : Nat)) F359 rfl (wanted_guard rfl rfl rfl F359 rfl (decide_eq_true hc355) rfl) (fun W => (rn_move (F359.get rfl))) fun _ F361 => ?_; clear F359
       refine qp 6 (.slice A s.length c) F361 rfl (wanted_guard rfl rfl rfl F361 rfl (decide_eq_true hc355) rfl) (fun W => (rn_move (F361.get rfl))) fun _ F363 => ?_; clear F361
       refine qp 7 (.pointer (some ⟨b7, o8 + 10, none⟩)) F363 rfl (wanted_guard rfl rfl rfl F363 rfl (decide_eq_true hc355) rfl) (fun W => (rn_index1 Try.underlying35 inf5 ((F363.get rfl).trans (by rw [hA9])) rfl (by omega : (0 : Int) ≤ 10) (by omega : (10 : Int) < ((s.length : Nat) : Int)))) fun _ F365 => ?_; clear F363
       have hS366 : Ext w345 w345 := (Ext.refl w345)
       have d367 := ((hc.ext hx338).ext hx346)
       refine qs 8 (.int .u8 ((s.getD 10 0).toNat : Nat)) F365 rfl (wanted_guard rfl rfl rfl F365 rfl (decide_eq_true hc355) rfl) hS366 (fun W hW => (rn_load (isAgg_no Try.underlying5 rfl) (F365.get rfl) (Fl.cellAt (d367.ext hW) hA9 (byteVals_at (i := 10) (by omega))))) fun _ F369 => ?_; clear F365
       refine qp 9 (.slice A s.length c) F369 rfl (wanted_guard rfl rfl rfl F369 rfl (decide_eq_true hc355) rfl) (fun W => (rn_move (F369.get rfl))) fun _ F371 => ?_; clear F369
       refine qp 10 (.int .i64 ((s.getD 11 0).toNat : Nat)) F371 rfl (wanted_guard rfl rfl rfl F371 rfl (decide_eq_true hc355) rfl) (fun W => (rn_move (F371.get rfl))) fun _ F373 => ?_; clear F371
       refine qp 11 (.int .i64 (12 + ((s.getD 11 0).toNat) : Nat)) F373 rfl (wanted_guard rfl rfl rfl F373 rfl (decide_eq_true hc355) rfl) (fun W => (rn_addN (a := 12) (b := (s.getD 11 0).toNat) rfl (F373.get rfl) (by omega))) fun _ F375 => ?_; clear F373
       refine qp 12 (.slice (some ⟨b7, o8 + 12 * 1, none⟩) ((s.getD 11 0).toNat) (c - 12)) F375 rfl (wanted_guard rfl rfl rfl F375 rfl (decide_eq_true hc355) rfl) (fun W => (rn_sliceLH (l := 12) (h := (12 + ((s.getD 11 0).toNat))) Try.underlying35 inf5 ((F375.get rfl).trans (by rw [hA9])) rfl (F375.get rfl) (by omega) (by omega) (by omega) (by omega))) fun _ F377 => ?_; clear F375
       refine any_one (i := 13) (by decide +kernel) rfl ?_
       have hf381 := (Fl.mid_eq (j := 12) (m' := (s.getD 11 0).toNat) d367 hA9 (by omega) (by omega) (byteVals_mid _ _ _))
       refine o_call F377 rfl (wanted_guard rfl rfl rfl F377 rfl (decide_eq_true hc355) rfl) rfl rfl (rn_call (args4 (F377.get rfl) (F377.get rfl) (F377.get rfl) (F377.get rfl)) rfl (by kernel_rfl)) (encode_at (v := (.slice (some ⟨b7, o8 + 12 * 1, none⟩) ((s.getD 11 0).toNat) (c - 12))) (m := (s.getD 11 0).toNat) (num (s.take 4)) k (s.getD 10 0) ((s.drop 12).take ((s.getD 11 0).toNat)) _ (Fl.mid_eq (j := 12) (m' := (s.getD 11 0).toNat) d367 hA9 (by omega) (by omega) (byteVals_mid _ _ _)) (by omega) (by omega) (by omega)) ?_
       rintro _ w382 ⟨g378, z379, rfl, b380, hx383⟩
       refine ⟨_, rfl, ?_⟩; intro a384 F385; clear F377; have z386 := hx383.size
       have z387 := b380.lt
       refine ⟨fun _ _ => ((Ext.refl w345).trans hx383), ?_⟩
       refine any_one (i := 14) (by decide +kernel) rfl ?_
       have d388 := (((hc.ext hx338).ext hx346).ext hx383)
       refine o_call F385 rfl (wanted_guard rfl rfl rfl F385 rfl (decide_eq_true hc355) rfl) rfl rfl (rn_call (args2 (F385.get rfl) (F385.get rfl)) rfl (by kernel_rfl)) (beq_at (v := (.slice A s.length c)) (u := (.slice (some ⟨g378, 0, none⟩) 128 128)) (n := s.length) (m := 128) s (encL (num (s.take 4)) k (s.getD 10 0) ((s.drop 12).take ((s.getD 11 0).toNat))) _ d388 (Fl.blk (S := fun b => b = g378) (k := 1) (n := 128) (c := 128) b380 (by rw [byteVals_len (encL_len (by have := Fl.blen hf381; omega)), Nat.mul_one]) (byteVals_one _) (by omega) rfl)) ?_
       rintro _ w389 ⟨rfl, hx390⟩
       refine ⟨_, rfl, ?_⟩; intro a391 F392; clear F385; have z393 := hx390.size
       refine ⟨fun _ _ => (((Ext.refl w345).trans hx383).trans hx390), ?_⟩
       refine qp 15 (.bool (decide (s = encL (num (s.take 4)) k (s.getD 10 0) ((s.drop 12).take ((s.getD 11 0).toNat))))) F392 rfl rfl (fun W => (rn_pickT (c_true F392 rfl (decide_eq_true hc355)) (F392.get rfl))) fun _ F395 => ?_; clear F392
       refine qp 16 (.bool (decide (s = encL (num (s.take 4)) k (s.getD 10 0) ((s.drop 12).take ((s.getD 11 0).toNat))))) F395 rfl rfl (fun W => (rn_assign (F395.get rfl))) fun _ F397 => ?_; clear F395
       refine any_nil (by decide +kernel) ?_
       refine hK344 _ _ ?_
       clear hK344
       have F398 := ((((((F397.nil.c F397 6 rfl).c F397 40 rfl).c F397 5 rfl).c F397 4 rfl).c F397 1 rfl).c F397 0 rfl)
       clear F397
       refine wp_ret ?_
       refine ret1 F398 rfl rfl ?_
       exact ⟨congrArg (fun b => Ending.returned (.bool b)) (show (decide (s = encL (num (s.take 4)) k (s.getD 10 0) ((s.drop 12).take ((s.getD 11 0).toNat)))) = goodS s k from (goodS_eq (by show kindOk (s.getD 11 0).toNat (s.getD 10 0); unfold kindOk; omega) (by show 0 < num (s.take 4); omega)).symm), (((((Ext.refl w).trans hx338).trans hx346).trans hx383).trans hx390)⟩
      ·skip
       refine qk 3 F354 rfl (decide_eq_false hc355) fun _ F400 => ?_; clear F354
       refine qk 4 F400 rfl (decide_eq_false hc355) fun _ F402 => ?_; clear F400
       refine qk 5 F402 rfl (decide_eq_false hc355) fun _ F404 => ?_; clear F402
       refine qk 6 F404 rfl (decide_eq_false hc355) fun _ F406 => ?_; clear F404
       refine qk 7 F406 rfl (decide_eq_false hc355) fun _ F408 => ?_; clear F406
       refine qk 8 F408 rfl (decide_eq_false hc355) fun _ F410 => ?_; clear F408
       refine qk 9 F410 rfl (decide_eq_false hc355) fun _ F412 => ?_; clear F410
       refine qk 10 F412 rfl (decide_eq_false hc355) fun _ F414 => ?_; clear F412
       refine qk 11 F414 rfl (decide_eq_false hc355) fun _ F416 => ?_; clear F414
       refine qk 12 F416 rfl (decide_eq_false hc355) fun _ F418 => ?_; clear F416
       refine any_one (i := 13) (by decide +kernel) rfl ?_
       refine o_skip F418 rfl (unwanted_guard rfl rfl rfl F418 rfl (decide_eq_false hc355) rfl) rfl rfl ?_
       intro a419 F420; clear F418
       refine ⟨fun _ _ => (Ext.refl w345), ?_⟩
       refine any_one (i := 14) (by decide +kernel) rfl ?_
       refine o_skip F420 rfl (unwanted_guard rfl rfl rfl F420 rfl (decide_eq_false hc355) rfl) rfl rfl ?_
       intro a421 F422; clear F420
       refine ⟨fun _ _ => (Ext.refl w345), ?_⟩
       refine qp 15 (.bool false) F422 rfl rfl (fun W => (rn_pickF (c_false F422 rfl (decide_eq_false hc355)) rfl)) fun _ F424 => ?_; clear F422
       refine qp 16 (.bool false) F424 rfl rfl (fun W => (rn_assign (F424.get rfl))) fun _ F426 => ?_; clear F424
       refine any_nil (by decide +kernel) ?_
       refine hK344 _ _ ?_
       clear hK344
       have F427 := ((((((F426.nil.c F426 6 rfl).c F426 40 rfl).c F426 5 rfl).c F426 4 rfl).c F426 1 rfl).c F426 0 rfl)
       clear F426
       refine wp_ret ?_
       refine ret1 F427 rfl rfl ?_
       exact ⟨by rw [goodS_zero (show num (s.take 4) = 0 by omega)], (((Ext.refl w).trans hx338).trans hx346)⟩
   ·skip
    refine qu 15 F160 (decide_eq_false hc161) fun _ F429 => ?_; clear F160
    refine qu 16 F429 (decide_eq_false hc161) fun _ F431 => ?_; clear F429
    refine qg 17 (.bool false) F431 (decide_eq_false hc102) (rn_pickF (c_false F431 rfl (decide_eq_false hc161)) rfl) fun _ F433 => ?_; clear F431
    refine qv 18 (.bool false) F433 rfl (rn_pickF (c_false F433 rfl (decide_eq_false hc102)) (F433.get rfl)) fun _ F435 => ?_; clear F433
    refine qv 19 (.bool false) F435 rfl (rn_move (F435.get rfl)) fun _ F437 => ?_; clear F435
    refine qg 20 (.slice A s.length c) F437 rfl (rn_move (F437.get rfl)) fun _ F439 => ?_; clear F437
    refine qg 21 (.pointer (some ⟨b7, o8 + 10, none⟩)) F439 rfl (rn_index1 Try.underlying35 inf5 ((F439.get rfl).trans (by rw [hA9])) rfl (by omega : (0 : Int) ≤ 10) (by omega : (10 : Int) < ((s.length : Nat) : Int))) fun _ F441 => ?_; clear F439
    refine qg 22 (.int .u8 ((s.getD 10 0).toNat : Nat)) F441 rfl (rn_load (isAgg_no Try.underlying5 rfl) (F441.get rfl) (Fl.cellAt hc hA9 (byteVals_at (i := 10) (by omega)))) fun _ F443 => ?_; clear F441
    refine qg 23 (.int .u8 (((s.getD 10 0) &&& (1 : UInt8)).toNat : Nat)) F443 rfl (rn_and8 (a := (s.getD 10 0)) (b := (1 : UInt8)) (F443.get rfl) rfl) fun _ F445 => ?_; clear F443
    refine qg 24 (.bool (decide (((((s.getD 10 0) &&& (1 : UInt8)).toNat : Nat) : Int) = (0 : Int)))) F445 rfl (rn_eql (F445.get rfl) rfl) fun _ F447 => ?_; clear F445
    refine qg 25 (.bool (decide (((((s.getD 10 0) &&& (1 : UInt8)).toNat : Nat) : Int) = (0 : Int)))) F447 rfl (rn_move (F447.get rfl)) fun _ F449 => ?_; clear F447
    by_cases hc450 : ((((s.getD 10 0) &&& (1 : UInt8)).toNat : Nat) : Int) = (0 : Int)
    ·skip
     refine qg 26 (.int .i64 ((s.getD 11 0).toNat : Nat)) F449 (decide_eq_true hc450) (rn_move (F449.get rfl)) fun _ F452 => ?_; clear F449
     refine qg 27 (.bool (decide ((((s.getD 11 0).toNat : Nat) : Int) = (0 : Int)))) F452 (decide_eq_true hc450) (rn_eql (F452.get rfl) rfl) fun _ F454 => ?_; clear F452
     refine qg 28 (.bool (decide ((((s.getD 11 0).toNat : Nat) : Int) = (0 : Int)))) F454 rfl (rn_pickT (c_true F454 rfl (decide_eq_true hc450)) (F454.get rfl)) fun _ F456 => ?_; clear F454
     refine qv 29 (.bool (decide ((((s.getD 11 0).toNat : Nat) : Int) = (0 : Int)))) F456 rfl (rn_pickF (c_false F456 rfl rfl) (F456.get rfl)) fun _ F458 => ?_; clear F456
     refine wpList_nil ?_
     refine hK21 _ _ ?_
     clear hK21
     have F459 := (((((F458.nil.c F458 40 rfl).c F458 5 rfl).c F458 4 rfl).c F458 1 rfl).c F458 0 rfl)
     clear F458
     by_cases hc460 : (((s.getD 11 0).toNat : Nat) : Int) = (0 : Int)
     ·skip
      refine wp_cond_true (c_true F459 rfl (decide_eq_true hc460)) ?_
      refine wp_seq_k (fun K461 hK461 => ?_)
      refine wp_region_lit ?_
      refine qv 0 (.bool false) F459 rfl (rn_assign rfl) fun _ F463 => ?_; clear F459
      refine wpList_nil ?_
      refine hK461 _ _ ?_
      clear hK461
      refine wp_ret ?_
      refine ret_then ?_
      refine ret1 F463 rfl rfl ?_
      exact ⟨by rw [goodS_bad (show ¬ kindOk (s.getD 11 0).toNat (s.getD 10 0) by unfold kindOk; omega)], (Ext.refl w)⟩
     ·skip
      refine wp_cond_false (c_false F459 rfl (decide_eq_false hc460)) ?_
      refine wp_skip ?_
      refine hK20 _ _ ?_
      clear hK20
      refine wp_seq_k (fun K464 hK464 => ?_)
      refine wp_region_lit ?_
      refine qv 0 (.slice A s.length c) F459 rfl (rn_move (F459.get rfl)) fun _ F466 => ?_; clear F459
      refine qv 1 (.slice A 4 c) F466 rfl (rn_sliceHi Try.underlying35 inf5 (F466.get rfl) rfl (by omega : (0 : Int) ≤ 4) (by omega : (4 : Int) ≤ ((c : Nat) : Int))) fun _ F468 => ?_; clear F466
      have hf469 := (Fl.take_eq (j := 4) hc (by omega) (byteVals_take1 _ _))
      have z470 := num_lt4 (l := s.take 4) (by have := Fl.blen hf469; omega)
      refine wpl_op (i := 2) rfl (o_call F468 rfl rfl rfl rfl (rn_call (args1 (F468.get rfl)) rfl (by kernel_rfl)) (get_at (v := (.slice A 4 c)) (m := 4) (s.take 4) _ hf469 (by omega)) ?_)
      rintro _ w471 ⟨rfl, hx472⟩
      refine ⟨_, rfl, ?_⟩; intro a473 F474; clear F468; have z475 := hx472.size
      refine qv 3 (.int .u64 (num (s.take 4) : Nat)) F474 rfl (rn_assign (F474.get rfl)) fun _ F477 => ?_; clear F474
      refine wpList_nil ?_
      refine hK464 _ _ ?_
      clear hK464
      refine wp_seq_k (fun K478 hK478 => ?_)
      have hx480 : ∃ W, w471.drew = W ∧ Ext w471 W := ⟨_, rfl, (Ext.refl _).drew⟩
      obtain ⟨w479, e481, hx480⟩ := hx480
      have z482 := hx480.size
      refine any_start (fun W => Ext w479 W) (fun i => false) 17 #[false, false, false, false, false, false, false, false, false, false, false, false, false, false, false, false, false] rfl rfl rfl ?_
      rw [e481]; clear e481
      refine qp 0 (.int .u64 (num (s.take 4) : Nat)) F477 rfl rfl (fun W => (rn_move (F477.get rfl))) fun _ F484 => ?_; clear F477
      refine qp 1 (.bool (decide ((0 : Int) < ((num (s.take 4) : Nat) : Int)))) F484 rfl rfl (fun W => (rn_gtr (F484.get rfl) rfl)) fun _ F486 => ?_; clear F484
      refine qp 2 (.bool (decide ((0 : Int) < ((num (s.take 4) : Nat) : Int)))) F486 rfl rfl (fun W => (rn_move (F486.get rfl))) fun _ F488 => ?_; clear F486
      by_cases hc489 : (0 : Int) < ((num (s.take 4) : Nat) : Int)
      ·skip
       refine qp 3 (.slice A s.length c) F488 rfl (wanted_guard rfl rfl rfl F488 rfl (decide_eq_true hc489) rfl) (fun W => (rn_move (F488.get rfl))) fun _ F491 => ?_; clear F488
       refine qp 4 (.int .u64 (num (s.take 4) : Nat)) F491 rfl (wanted_guard rfl rfl rfl F491 rfl (decide_eq_true hc489) rfl) (fun W => (rn_move (F491.get rfl))) fun _ F493 => ?_; clear F491
       refine qp 5 (.int .i64 (k : Nat)) F493 rfl (wanted_guard rfl rfl rfl F493 rfl (decide_eq_true hc489) rfl) (fun W => (rn_move (F493.get rfl))) fun _ F495 => ?_; clear F493
       refine qp 6 (.slice A s.length c) F495 rfl (wanted_guard rfl rfl rfl F495 rfl (decide_eq_true hc489) rfl) (fun W => (rn_move (F495.get rfl))) fun _ F497 => ?_; clear F495
       refine qp 7 (.pointer (some ⟨b7, o8 + 10, none⟩)) F497 rfl (wanted_guard rfl rfl rfl F497 rfl (decide_eq_true hc489) rfl) (fun W => (rn_index1 Try.underlying35 inf5 ((F497.get rfl).trans (by rw [hA9])) rfl (by omega : (0 : Int) ≤ 10) (by omega : (10 : Int) < ((s.length : Nat) : Int)))) fun _ F499 => ?_; clear F497
       have hS500 : Ext w479 w479 := (Ext.refl w479)
       have d501 := ((hc.ext hx472).ext hx480)
       refine qs 8 (.int .u8 ((s.getD 10 0).toNat : Nat)) F499 rfl (wanted_guard rfl rfl rfl F499 rfl (decide_eq_true hc489) rfl) hS500 (fun W hW => (rn_load (isAgg_no Try.underlying5 rfl) (F499.get rfl) (Fl.cellAt (d501.ext hW) hA9 (byteVals_at (i := 10) (by omega))))) fun _ F503 => ?_; clear F499
       refine qp 9 (.slice A s.length c) F503 rfl (wanted_guard rfl rfl rfl F503 rfl (decide_eq_true hc489) rfl) (fun W => (rn_move (F503.get rfl))) fun _ F505 => ?_; clear F503
       refine qp 10 (.int .i64 ((s.getD 11 0).toNat : Nat)) F505 rfl (wanted_guard rfl rfl rfl F505 rfl (decide_eq_true hc489) rfl) (fun W => (rn_move (F505.get rfl))) fun _ F507 => ?_; clear F505
       refine qp 11 (.int .i64 (12 + ((s.getD 11 0).toNat) : Nat)) F507 rfl (wanted_guard rfl rfl rfl F507 rfl (decide_eq_true hc489) rfl) (fun W => (rn_addN (a := 12) (b := (s.getD 11 0).toNat) rfl (F507.get rfl) (by omega))) fun _ F509 => ?_; clear F507
       refine qp 12 (.slice (some ⟨b7, o8 + 12 * 1, none⟩) ((s.getD 11 0).toNat) (c - 12)) F509 rfl (wanted_guard rfl rfl rfl F509 rfl (decide_eq_true hc489) rfl) (fun W => (rn_sliceLH (l := 12) (h := (12 + ((s.getD 11 0).toNat))) Try.underlying35 inf5 ((F509.get rfl).trans (by rw [hA9])) rfl (F509.get rfl) (by omega) (by omega) (by omega) (by omega))) fun _ F511 => ?_; clear F509
       refine any_one (i := 13) (by decide +kernel) rfl ?_
       have hf515 := (Fl.mid_eq (j := 12) (m' := (s.getD 11 0).toNat) d501 hA9 (by omega) (by omega) (byteVals_mid _ _ _))
       refine o_call F511 rfl (wanted_guard rfl rfl rfl F511 rfl (decide_eq_true hc489) rfl) rfl rfl (rn_call (args4 (F511.get rfl) (F511.get rfl) (F511.get rfl) (F511.get rfl)) rfl (by kernel_rfl)) (encode_at (v := (.slice (some ⟨b7, o8 + 12 * 1, none⟩) ((s.getD 11 0).toNat) (c - 12))) (m := (s.getD 11 0).toNat) (num (s.take 4)) k (s.getD 10 0) ((s.drop 12).take ((s.getD 11 0).toNat)) _ (Fl.mid_eq (j := 12) (m' := (s.getD 11 0).toNat) d501 hA9 (by omega) (by omega) (byteVals_mid _ _ _)) (by omega) (by omega) (by omega)) ?_
       rintro _ w516 ⟨g512, z513, rfl, b514, hx517⟩
       refine ⟨_, rfl, ?_⟩; intro a518 F519; clear F511; have z520 := hx517.size
       have z521 := b514.lt
       refine ⟨fun _ _ => ((Ext.refl w479).trans hx517), ?_⟩
       refine any_one (i := 14) (by decide +kernel) rfl ?_
       have d522 := (((hc.ext hx472).ext hx480).ext hx517)
       refine o_call F519 rfl (wanted_guard rfl rfl rfl F519 rfl (decide_eq_true hc489) rfl) rfl rfl (rn_call (args2 (F519.get rfl) (F519.get rfl)) rfl (by kernel_rfl)) (beq_at (v := (.slice A s.length c)) (u := (.slice (some ⟨g512, 0, none⟩) 128 128)) (n := s.length) (m := 128) s (encL (num (s.take 4)) k (s.getD 10 0) ((s.drop 12).take ((s.getD 11 0).toNat))) _ d522 (Fl.blk (S := fun b => b = g512) (k := 1) (n := 128) (c := 128) b514 (by rw [byteVals_len (encL_len (by have := Fl.blen hf515; omega)), Nat.mul_one]) (byteVals_one _) (by omega) rfl)) ?_
       rintro _ w523 ⟨rfl, hx524⟩
       refine ⟨_, rfl, ?_⟩; intro a525 F526; clear F519; have z527 := hx524.size
       refine ⟨fun _ _ => (((Ext.refl w479).trans hx517).trans hx524), ?_⟩
       refine qp 15 (.bool (decide (s = encL (num (s.take 4)) k (s.getD 10 0) ((s.drop 12).take ((s.getD 11 0).toNat))))) F526 rfl rfl (fun W => (rn_pickT (c_true F526 rfl (decide_eq_true hc489)) (F526.get rfl))) fun _ F529 => ?_; clear F526
       refine qp 16 (.bool (decide (s = encL (num (s.take 4)) k (s.getD 10 0) ((s.drop 12).take ((s.getD 11 0).toNat))))) F529 rfl rfl (fun W => (rn_assign (F529.get rfl))) fun _ F531 => ?_; clear F529
       refine any_nil (by decide +kernel) ?_
       refine hK478 _ _ ?_
       clear hK478
       have F532 := ((((((F531.nil.c F531 6 rfl).c F531 40 rfl).c F531 5 rfl).c F531 4 rfl).c F531 1 rfl).c F531 0 rfl)
       clear F531
       refine wp_ret ?_
       refine ret1 F532 rfl rfl ?_
       exact ⟨congrArg (fun b => Ending.returned (.bool b)) (show (decide (s = encL (num (s.take 4)) k (s.getD 10 0) ((s.drop 12).take ((s.getD 11 0).toNat)))) = goodS s k from (goodS_eq (by show kindOk (s.getD 11 0).toNat (s.getD 10 0); unfold kindOk; omega) (by show 0 < num (s.take 4); omega)).symm), (((((Ext.refl w).trans hx472).trans hx480).trans hx517).trans hx524)⟩
      ·skip
       refine qk 3 F488 rfl (decide_eq_false hc489) fun _ F534 => ?_; clear F488
       refine qk 4 F534 rfl (decide_eq_false hc489) fun _ F536 => ?_; clear F534
       refine qk 5 F536 rfl (decide_eq_false hc489) fun _ F538 => ?_; clear F536
       refine qk 6 F538 rfl (decide_eq_false hc489) fun _ F540 => ?_; clear F538
       refine qk 7 F540 rfl (decide_eq_false hc489) fun _ F542 => ?_; clear F540
       refine qk 8 F542 rfl (decide_eq_false hc489) fun _ F544 => ?_; clear F542
       refine qk 9 F544 rfl (decide_eq_false hc489) fun _ F546 => ?_; clear F544
       refine qk 10 F546 rfl (decide_eq_false hc489) fun _ F548 => ?_; clear F546
       refine qk 11 F548 rfl (decide_eq_false hc489) fun _ F550 => ?_; clear F548
       refine qk 12 F550 rfl (decide_eq_false hc489) fun _ F552 => ?_; clear F550
       refine any_one (i := 13) (by decide +kernel) rfl ?_
       refine o_skip F552 rfl (unwanted_guard rfl rfl rfl F552 rfl (decide_eq_false hc489) rfl) rfl rfl ?_
       intro a553 F554; clear F552
       refine ⟨fun _ _ => (Ext.refl w479), ?_⟩
       refine any_one (i := 14) (by decide +kernel) rfl ?_
       refine o_skip F554 rfl (unwanted_guard rfl rfl rfl F554 rfl (decide_eq_false hc489) rfl) rfl rfl ?_
       intro a555 F556; clear F554
       refine ⟨fun _ _ => (Ext.refl w479), ?_⟩
       refine qp 15 (.bool false) F556 rfl rfl (fun W => (rn_pickF (c_false F556 rfl (decide_eq_false hc489)) rfl)) fun _ F558 => ?_; clear F556
       refine qp 16 (.bool false) F558 rfl rfl (fun W => (rn_assign (F558.get rfl))) fun _ F560 => ?_; clear F558
       refine any_nil (by decide +kernel) ?_
       refine hK478 _ _ ?_
       clear hK478
       have F561 := ((((((F560.nil.c F560 6 rfl).c F560 40 rfl).c F560 5 rfl).c F560 4 rfl).c F560 1 rfl).c F560 0 rfl)
       clear F560
       refine wp_ret ?_
       refine ret1 F561 rfl rfl ?_
       exact ⟨by rw [goodS_zero (show num (s.take 4) = 0 by omega)], (((Ext.refl w).trans hx472).trans hx480)⟩
    ·skip
     refine qu 26 F449 (decide_eq_false hc450) fun _ F563 => ?_; clear F449
     refine qu 27 F563 (decide_eq_false hc450) fun _ F565 => ?_; clear F563
     refine qg 28 (.bool false) F565 rfl (rn_pickF (c_false F565 rfl (decide_eq_false hc450)) rfl) fun _ F567 => ?_; clear F565
     refine qv 29 (.bool false) F567 rfl (rn_pickF (c_false F567 rfl rfl) (F567.get rfl)) fun _ F569 => ?_; clear F567
     refine wpList_nil ?_
     refine hK21 _ _ ?_
     clear hK21
     have F570 := (((((F569.nil.c F569 40 rfl).c F569 5 rfl).c F569 4 rfl).c F569 1 rfl).c F569 0 rfl)
     clear F569
     refine wp_cond_false (c_false F570 rfl rfl) ?_
     refine wp_skip ?_
     refine hK20 _ _ ?_
     clear hK20
     refine wp_seq_k (fun K571 hK571 => ?_)
     refine wp_region_lit ?_
     refine qv 0 (.slice A s.length c) F570 rfl (rn_move (F570.get rfl)) fun _ F573 => ?_; clear F570
     refine qv 1 (.slice A 4 c) F573 rfl (rn_sliceHi Try.underlying35 inf5 (F573.get rfl) rfl (by omega : (0 : Int) ≤ 4) (by omega : (4 : Int) ≤ ((c : Nat) : Int))) fun _ F575 => ?_; clear F573
     have hf576 := (Fl.take_eq (j := 4) hc (by omega) (byteVals_take1 _ _))
     have z577 := num_lt4 (l := s.take 4) (by have := Fl.blen hf576; omega)
     refine wpl_op (i := 2) rfl (o_call F575 rfl rfl rfl rfl (rn_call (args1 (F575.get rfl)) rfl (by kernel_rfl)) (get_at (v := (.slice A 4 c)) (m := 4) (s.take 4) _ hf576 (by omega)) ?_)
     rintro _ w578 ⟨rfl, hx579⟩
     refine ⟨_, rfl, ?_⟩; intro a580 F581; clear F575; have z582 := hx579.size
     refine qv 3 (.int .u64 (num (s.take 4) : Nat)) F581 rfl (rn_assign (F581.get rfl)) fun _ F584 => ?_; clear F581
     refine wpList_nil ?_
     refine hK571 _ _ ?_
     clear hK571
     refine wp_seq_k (fun K585 hK585 => ?_)
     have hx587 : ∃ W, w578.drew = W ∧ Ext w578 W := ⟨_, rfl, (Ext.refl _).drew⟩
     obtain ⟨w586, e588, hx587⟩ := hx587
     have z589 := hx587.size
     refine any_start (fun W => Ext w586 W) (fun i => false) 17 #[false, false, false, false, false, false, false, false, false, false, false, false, false, false, false, false, false] rfl rfl rfl ?_
     rw [e588]; clear e588
     refine qp 0 (.int .u64 (num (s.take 4) : Nat)) F584 rfl rfl (fun W => (rn_move (F584.get rfl))) fun _ F591 => ?_; clear F584
     refine qp 1 (.bool (decide ((0 : Int) < ((num (s.take 4) : Nat) : Int)))) F591 rfl rfl (fun W => (rn_gtr (F591.get rfl) rfl)) fun _ F593 => ?_; clear F591
     refine qp 2 (.bool (decide ((0 : Int) < ((num (s.take 4) : Nat) : Int)))) F593 rfl rfl (fun W => (rn_move (F593.get rfl))) fun _ F595 => ?_; clear F593
     by_cases hc596 : (0 : Int) < ((num (s.take 4) : Nat) : Int)
     ·skip
      refine qp 3 (.slice A s.length c) F595 rfl (wanted_guard rfl rfl rfl F595 rfl (decide_eq_true hc596) rfl) (fun W => (rn_move (F595.get rfl))) fun _ F598 => ?_; clear F595
      refine qp 4 (.int .u64 (num (s.take 4) : Nat)) F598 rfl (wanted_guard rfl rfl rfl F598 rfl (decide_eq_true hc596) rfl) (fun W => (rn_move (F598.get rfl))) fun _ F600 => ?_; clear F598
      refine qp 5 (.int .i64 (k : Nat)) F600 rfl (wanted_guard rfl rfl rfl F600 rfl (decide_eq_true hc596) rfl) (fun W => (rn_move (F600.get rfl))) fun _ F602 => ?_; clear F600
      refine qp 6 (.slice A s.length c) F602 rfl (wanted_guard rfl rfl rfl F602 rfl (decide_eq_true hc596) rfl) (fun W => (rn_move (F602.get rfl))) fun _ F604 => ?_; clear F602
      refine qp 7 (.pointer (some ⟨b7, o8 + 10, none⟩)) F604 rfl (wanted_guard rfl rfl rfl F604 rfl (decide_eq_true hc596) rfl) (fun W => (rn_index1 Try.underlying35 inf5 ((F604.get rfl).trans (by rw [hA9])) rfl (by omega : (0 : Int) ≤ 10) (by omega : (10 : Int) < ((s.length : Nat) : Int)))) fun _ F606 => ?_; clear F604
      have hS607 : Ext w586 w586 := (Ext.refl w586)
      have d608 := ((hc.ext hx579).ext hx587)
      refine qs 8 (.int .u8 ((s.getD 10 0).toNat : Nat)) F606 rfl (wanted_guard rfl rfl rfl F606 rfl (decide_eq_true hc596) rfl) hS607 (fun W hW => (rn_load (isAgg_no Try.underlying5 rfl) (F606.get rfl) (Fl.cellAt (d608.ext hW) hA9 (byteVals_at (i := 10) (by omega))))) fun _ F610 => ?_; clear F606
      refine qp 9 (.slice A s.length c) F610 rfl (wanted_guard rfl rfl rfl F610 rfl (decide_eq_true hc596) rfl) (fun W => (rn_move (F610.get rfl))) fun _ F612 => ?_; clear F610
      refine qp 10 (.int .i64 ((s.getD 11 0).toNat : Nat)) F612 rfl (wanted_guard rfl rfl rfl F612 rfl (decide_eq_true hc596) rfl) (fun W => (rn_move (F612.get rfl))) fun _ F614 => ?_; clear F612
      refine qp 11 (.int .i64 (12 + ((s.getD 11 0).toNat) : Nat)) F614 rfl (wanted_guard rfl rfl rfl F614 rfl (decide_eq_true hc596) rfl) (fun W => (rn_addN (a := 12) (b := (s.getD 11 0).toNat) rfl (F614.get rfl) (by omega))) fun _ F616 => ?_; clear F614
      refine qp 12 (.slice (some ⟨b7, o8 + 12 * 1, none⟩) ((s.getD 11 0).toNat) (c - 12)) F616 rfl (wanted_guard rfl rfl rfl F616 rfl (decide_eq_true hc596) rfl) (fun W => (rn_sliceLH (l := 12) (h := (12 + ((s.getD 11 0).toNat))) Try.underlying35 inf5 ((F616.get rfl).trans (by rw [hA9])) rfl (F616.get rfl) (by omega) (by omega) (by omega) (by omega))) fun _ F618 => ?_; clear F616
      refine any_one (i := 13) (by decide +kernel) rfl ?_
      have hf622 := (Fl.mid_eq (j := 12) (m' := (s.getD 11 0).toNat) d608 hA9 (by omega) (by omega) (byteVals_mid _ _ _))
      refine o_call F618 rfl (wanted_guard rfl rfl rfl F618 rfl (decide_eq_true hc596) rfl) rfl rfl (rn_call (args4 (F618.get rfl) (F618.get rfl) (F618.get rfl) (F618.get rfl)) rfl (by kernel_rfl)) (encode_at (v := (.slice (some ⟨b7, o8 + 12 * 1, none⟩) ((s.getD 11 0).toNat) (c - 12))) (m := (s.getD 11 0).toNat) (num (s.take 4)) k (s.getD 10 0) ((s.drop 12).take ((s.getD 11 0).toNat)) _ (Fl.mid_eq (j := 12) (m' := (s.getD 11 0).toNat) d608 hA9 (by omega) (by omega) (byteVals_mid _ _ _)) (by omega) (by omega) (by omega)) ?_
      rintro _ w623 ⟨g619, z620, rfl, b621, hx624⟩
      refine ⟨_, rfl, ?_⟩; intro a625 F626; clear F618; have z627 := hx624.size
      have z628 := b621.lt
      refine ⟨fun _ _ => ((Ext.refl w586).trans hx624), ?_⟩
      refine any_one (i := 14) (by decide +kernel) rfl ?_
      have d629 := (((hc.ext hx579).ext hx587).ext hx624)
      refine o_call F626 rfl (wanted_guard rfl rfl rfl F626 rfl (decide_eq_true hc596) rfl) rfl rfl (rn_call (args2 (F626.get rfl) (F626.get rfl)) rfl (by kernel_rfl)) (beq_at (v := (.slice A s.length c)) (u := (.slice (some ⟨g619, 0, none⟩) 128 128)) (n := s.length) (m := 128) s (encL (num (s.take 4)) k (s.getD 10 0) ((s.drop 12).take ((s.getD 11 0).toNat))) _ d629 (Fl.blk (S := fun b => b = g619) (k := 1) (n := 128) (c := 128) b621 (by rw [byteVals_len (encL_len (by have := Fl.blen hf622; omega)), Nat.mul_one]) (byteVals_one _) (by omega) rfl)) ?_
      rintro _ w630 ⟨rfl, hx631⟩
      refine ⟨_, rfl, ?_⟩; intro a632 F633; clear F626; have z634 := hx631.size
      refine ⟨fun _ _ => (((Ext.refl w586).trans hx624).trans hx631), ?_⟩
      refine qp 15 (.bool (decide (s = encL (num (s.take 4)) k (s.getD 10 0) ((s.drop 12).take ((s.getD 11 0).toNat))))) F633 rfl rfl (fun W => (rn_pickT (c_true F633 rfl (decide_eq_true hc596)) (F633.get rfl))) fun _ F636 => ?_; clear F633
      refine qp 16 (.bool (decide (s = encL (num (s.take 4)) k (s.getD 10 0) ((s.drop 12).take ((s.getD 11 0).toNat))))) F636 rfl rfl (fun W => (rn_assign (F636.get rfl))) fun _ F638 => ?_; clear F636
      refine any_nil (by decide +kernel) ?_
      refine hK585 _ _ ?_
      clear hK585
      have F639 := ((((((F638.nil.c F638 6 rfl).c F638 40 rfl).c F638 5 rfl).c F638 4 rfl).c F638 1 rfl).c F638 0 rfl)
      clear F638
      refine wp_ret ?_
      refine ret1 F639 rfl rfl ?_
      exact ⟨congrArg (fun b => Ending.returned (.bool b)) (show (decide (s = encL (num (s.take 4)) k (s.getD 10 0) ((s.drop 12).take ((s.getD 11 0).toNat)))) = goodS s k from (goodS_eq (by show kindOk (s.getD 11 0).toNat (s.getD 10 0); unfold kindOk; omega) (by show 0 < num (s.take 4); omega)).symm), (((((Ext.refl w).trans hx579).trans hx587).trans hx624).trans hx631)⟩
     ·skip
      refine qk 3 F595 rfl (decide_eq_false hc596) fun _ F641 => ?_; clear F595
      refine qk 4 F641 rfl (decide_eq_false hc596) fun _ F643 => ?_; clear F641
      refine qk 5 F643 rfl (decide_eq_false hc596) fun _ F645 => ?_; clear F643
      refine qk 6 F645 rfl (decide_eq_false hc596) fun _ F647 => ?_; clear F645
      refine qk 7 F647 rfl (decide_eq_false hc596) fun _ F649 => ?_; clear F647
      refine qk 8 F649 rfl (decide_eq_false hc596) fun _ F651 => ?_; clear F649
      refine qk 9 F651 rfl (decide_eq_false hc596) fun _ F653 => ?_; clear F651
      refine qk 10 F653 rfl (decide_eq_false hc596) fun _ F655 => ?_; clear F653
      refine qk 11 F655 rfl (decide_eq_false hc596) fun _ F657 => ?_; clear F655
      refine qk 12 F657 rfl (decide_eq_false hc596) fun _ F659 => ?_; clear F657
      refine any_one (i := 13) (by decide +kernel) rfl ?_
      refine o_skip F659 rfl (unwanted_guard rfl rfl rfl F659 rfl (decide_eq_false hc596) rfl) rfl rfl ?_
      intro a660 F661; clear F659
      refine ⟨fun _ _ => (Ext.refl w586), ?_⟩
      refine any_one (i := 14) (by decide +kernel) rfl ?_
      refine o_skip F661 rfl (unwanted_guard rfl rfl rfl F661 rfl (decide_eq_false hc596) rfl) rfl rfl ?_
      intro a662 F663; clear F661
      refine ⟨fun _ _ => (Ext.refl w586), ?_⟩
      refine qp 15 (.bool false) F663 rfl rfl (fun W => (rn_pickF (c_false F663 rfl (decide_eq_false hc596)) rfl)) fun _ F665 => ?_; clear F663
      refine qp 16 (.bool false) F665 rfl rfl (fun W => (rn_assign (F665.get rfl))) fun _ F667 => ?_; clear F665
      refine any_nil (by decide +kernel) ?_
      refine hK585 _ _ ?_
      clear hK585
      have F668 := ((((((F667.nil.c F667 6 rfl).c F667 40 rfl).c F667 5 rfl).c F667 4 rfl).c F667 1 rfl).c F667 0 rfl)
      clear F667
      refine wp_ret ?_
      refine ret1 F668 rfl rfl ?_
      exact ⟨by rw [goodS_zero (show num (s.take 4) = 0 by omega)], (((Ext.refl w).trans hx579).trans hx587)⟩

theorem good_at {v : Value} {m : Nat} (l : List UInt8) (k : Nat) (w : World) (hf : Fl S w 1 v m (byteVals l)) (hs : m = 128) (hk : k < 65536) :
  Calls Try.prog 61 #[v, .int .i64 (k : Nat)] w (fun e w' => e = .returned (.bool (goodS l k)) ∧ Ext w w') := by
 have hm := hf.blen
 subst hm
 obtain ⟨A, c, rfl, _⟩ := hf.form
 exact good_any A c l k w hf hs hk

end Go.Proofs.Ytfmhnplkpohogaa

namespace Go.Proofs.Ytfmhnplkpohogaa
open Go.RowKit

theorem zero_cells (z : Value) (n : Nat) : Builtin.zeroCells #[z] n = (List.replicate n z).toArray := by
  apply Array.ext
  · simp [Builtin.zeroCells]
  · intro i h1 h2
    simp [Builtin.zeroCells, Nat.mod_one]
theorem zero_vals (n : Nat) : List.replicate n (Value.int .u8 0) = byteVals (List.replicate n 0) := by simp [byteVals]
section
variable {P : Program} {w : World}
theorem run_app_zeros {base : Nat} {t tn ty e : TypeId} (E : El P t e (.int .u8 0) 1 1) {kn kq : IntKind} (htn : P.underlying tn = some (.int kn)) {v : Value} {n : Nat} {xs : List Value} (hown : w.ownsRow base e 1 v n xs)
    {m : Nat} (hb : n + m ≤ 140737488355328) (hbase : base ≤ w.heap.size) :
    ∃ v' w', (Builtin.append_ #[t, tn] ty #[v, .int kq (m : Nat)]).run P w = .ok v' w' ∧ w'.ownsRow base e 1 v' (n + m) (xs ++ byteVals (List.replicate m 0)) ∧ w.grownBy w' v.ownBlock ∧ (v'.ownBlock = v.ownBlock ∨ v'.ownBlock = some w.heap.size) := by
  obtain ⟨i, hi, hz0, hz1, hz2⟩ := info_parts E.hi
  have hw : IntKind.i64.wrap (m : Int) = m := by rw [IntKind.wrap_i64]; omega
  have hneg : ¬ ((m : Int) < 0) := by omega
  have h48i : ¬ (281474976710656 < (m : Int) * (i.bytes : Int)) := by rw [hz2]; omega
  have hzc : (Value.int .u8 0).cells = #[.int .u8 0] := rfl
  have hlen : xs.length = n := by have := hown.1; omega
  -- what the growing arm leaves
  have grown : ∀ (old : Nat), old < n + m → ∀ (row : Option Nat),
      (w.drew.alloc (.cells (xs.toArray ++ Builtin.zeroCells #[.int .u8 0] m ++ Builtin.zeroCells #[.int .u8 0] (grownCap w (n + m) old e - (n + m))) e)).ownsRow base e 1
        (.slice (some ⟨w.heap.size, 0, none⟩) (n + m) (grownCap w (n + m) old e)) (n + m) (xs ++ byteVals (List.replicate m 0)) ∧
      w.grownBy (w.drew.alloc (.cells (xs.toArray ++ Builtin.zeroCells #[.int .u8 0] m ++ Builtin.zeroCells #[.int .u8 0] (grownCap w (n + m) old e - (n + m))) e)) row := by
    intro old ho row
    have hge := grownCap_ge w (n + m) old e
    have hcm : grownCap w (n + m) old e ≤ maxLen := grownCap_le_maxLen w (n + m) old e (by simp only [maxLen]; omega)
    refine ⟨⟨by simp [byteVals, hlen], .inr ⟨w.heap.size, _, _, rfl, hbase, heap_alloc_new w.drew _, hge, hcm, ?_, ?_⟩⟩, ⟨rfl, rfl, rfl, by simp, fun k hk _ => heap_alloc_old w.drew _ hk⟩⟩
    · simp only [zero_cells, Array.size_append, List.size_toArray, List.length_replicate, hlen]; omega
    · simp only [zero_cells, Array.toList_append, List.append_assoc, zero_vals]
      rw [← List.append_assoc, List.take_left']
      simp [byteVals, hlen]
  rcases Nat.eq_zero_or_pos m with h0 | h0
  · subst h0
    refine ⟨v, w, ?_, by simpa [byteVals] using hown, ⟨rfl, rfl, rfl, Nat.le_refl _, fun _ _ _ => rfl⟩, .inl rfl⟩
    have hw0 : IntKind.i64.wrap 0 = 0 := by have := hw; simpa using this
    rcases hown.2 with ⟨rfl, rfl⟩ | ⟨g, cap, cur, rfl, hbg, hg, hnc, hcm, hcs, htake⟩
    · simp [Builtin.append_, run_underlying E.ht, run_underlying htn, sizeOf, typeInfo, hi, asInt, asIntOf, hw0]
    · simp [Builtin.append_, run_underlying E.ht, run_underlying htn, sizeOf, typeInfo, hi, asInt, asIntOf, hw0, hnc, storeCells]
  · rcases hown.2 with ⟨rfl, rfl⟩ | ⟨g, cap, cur, rfl, hbg, hg, hnc, hcm, hcs, htake⟩
    · have hx : xs = [] := List.eq_nil_of_length_eq_zero hlen
      subst hx
      have hrun := Lib.run_append_nil_zeros (P := P) w t tn ty e i (.int .u8 0) kq kn E.ht htn hi hz0 m h0 (by rw [hz1]; omega) (by omega) (by rw [hz2]; omega)
      have hgr := grown 0 (by omega) (Value.ownBlock (.slice none 0 0))
      simp only [Nat.zero_add, List.nil_append, Array.empty_append] at hgr ⊢
      exact ⟨_, _, hrun, hgr.1, hgr.2, .inr rfl⟩
    · by_cases hroom : n + m ≤ cap
      · have hst := run_storeCells_at P g (n * 1) e (List.replicate m (Value.int .u8 0)) 0 cur w hg (by rw [List.length_replicate, hcs]; omega) (by intro u hu; rw [List.eq_of_mem_replicate hu]; rfl)
        simp only [Nat.add_zero, List.length_replicate] at hst
        refine ⟨.slice (some ⟨g, 0, none⟩) (n + m) cap, w.setRow g (cur.toList.take (n * 1) ++ List.replicate m (Value.int .u8 0) ++ cur.toList.drop (n * 1 + m)).toArray, ?_, ⟨by simp [byteVals, hlen], .inr ⟨g, cap, _, rfl, hbg, setRow_heap w g cur _ e _ hg, hroom, hcm, ?_, ?_⟩⟩, ⟨rfl, rfl, rfl, by simp, fun k _ hk => setRow_other w g k _ (fun e => hk (by simp [Value.ownBlock, e]))⟩, .inl rfl⟩
        · have hm0 : ¬ m = 0 := by omega
          simp [Builtin.append_, run_underlying E.ht, run_underlying htn, sizeOf, typeInfo, zeroValue, hi, hz0, hz1, hz2, asInt, asIntOf, hw, hneg, hroom, hm0, zero_cells, hzc, Addr.add_lit]
          have h48 : ¬ (281474976710656 < (m : Int)) := by omega
          simp only [Nat.mul_one] at hst
          simp [h48, hst]
        · simp only [List.size_toArray, List.length_append, List.length_take, List.length_drop, Array.length_toList, List.length_replicate]
          omega
        · rw [List.take_left' (by simp only [List.length_append, List.length_take, Array.length_toList, List.length_replicate]; omega), htake, zero_vals]
      · have hold : (Builtin.firstCells i.size n (.slice (some ⟨g, 0, none⟩) n cap)).run P w.drew = .ok xs.toArray w.drew :=
          run_firstCells_some (P := P) w.drew i.size n ⟨g, 0, none⟩ n cap xs (by rw [hz1, hlen]; omega) (fun j u hu => by
            rw [addr_add, Nat.zero_add]
            show w.cell? ⟨g, j, none⟩ = some u
            have hj := (List.getElem?_eq_some_iff.1 hu).1
            have hB : Blk w g e cur.toList := by show w.heap[g]? = _; rw [hg]
            rw [hB.rule.1, ← hu, ← htake, List.getElem?_take, if_pos (by omega)])
        have hrun := Lib.run_append_grow_zeros (P := P) w t tn ty e i (.int .u8 0) kq kn E.ht htn hi hz0 (some ⟨g, 0, none⟩) n cap xs hold m h0 (by rw [hz1]; omega) (by omega) (by omega) (by rw [hz2]; omega) (growslice_fits (by omega) (by rw [hz2]; omega))
        have hgr := grown cap (by omega) (Value.ownBlock (.slice (some ⟨g, 0, none⟩) n cap))
        exact ⟨_, _, hrun, hgr.1, hgr.2, .inr rfl⟩
end
section
variable {N : Nat} {m : List (Nat × Value)} {a : Act} {P : Program} {ops : Array Oper} {Q : Exit → Act → World → Prop} {i : Nat} {w : World} {o : Oper} {K : Act → World → Prop} {d : Nat}
theorem o_appZ {t tn e : TypeId} (E : El P t e (.int .u8 0) 1 1) {kn : IntKind} (htn : P.underlying tn = some (.int kn)) (hF : Sl N m a) (ho : ops[i]? = some o) (hw : Region.wanted o (yielded ops a.tmps) = true) (hd : o.dst = some d) (hN : Nat.blt d N = true) {s x : Operand}
    (hop : o.op = .call { callee := .builtin .append, args := #[s, x], argTypes := #[t, tn] }) {B : Option Addr} {n c0 : Nat} (hs : a.eval s = .slice B n c0) {kq : IntKind} {n2 : Nat} (hx : a.eval x = .int kq (n2 : Nat))
    {base : Nat} {xs zs : List Value} (hown : w.ownsRow base e 1 (.slice B n c0) n xs) (hbase : base ≤ w.heap.size) (hb : n + n2 ≤ 140737488355328) (hz : xs ++ byteVals (List.replicate n2 0) = zs)
    (h : ∀ A' c' w' a', Sl N ((d, .slice A' (n + n2) c') :: m) a' → w'.ownsRow base e 1 (.slice A' (n + n2) c') (n + n2) zs → w.grownBy w' (Value.slice B n c0).ownBlock → n + n2 ≤ c' → c' ≤ 9223372036854775807 →
      (∀ g, g < w.heap.size → some g ≠ (Value.slice B n c0).ownBlock → some g ≠ (Value.slice A' (n + n2) c').ownBlock) → K a' w') : wpOp P ops Q i K a w := by
  subst hz
  obtain ⟨v', w', hrun, h1, h2, h5⟩ := run_app_zeros (P := P) (ty := o.type) (kq := kq) E htn hown hb hbase
  refine op_wp ho hw ?_
  unfold Oper.wp execOp
  simp only [hop, resolve, invoke, builtin, Sem.run_bind, Sem.run_pure, Result.andThen_ok, List.map_toArray, List.map_cons, List.map_nil, hs, hx, hrun]
  obtain ⟨A', c', rfl, h3, h4⟩ := own_any h1
  refine h A' c' w' _ (by rw [hd]; exact hF.put hN) h1 h2 h3 h4 fun g hg hne => ?_
  rcases h5 with h5 | h5
  · rw [h5]; exact hne
  · rw [h5]; exact fun e => by injection e with e; omega
end

end Go.Proofs.Ytfmhnplkpohogaa
