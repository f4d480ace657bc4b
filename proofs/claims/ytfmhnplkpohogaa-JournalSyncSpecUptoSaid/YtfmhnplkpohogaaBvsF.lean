/- Contracts of the reference's numeral and Sector. -/
import Derived.Test.YtfmhnplkpohogaaProg
import Derived.Test.YtfmhnplkpohogaaBvsE
import Derived.KernelRfl
import Derived.Test.YtfmhnplkpohogaaBvsA
import Derived.Test.YtfmhnplkpohogaaBvsB
set_option linter.unusedVariables false
set_option linter.unusedSimpArgs false
namespace Go.Proofs.Ytfmhnplkpohogaa
open Go.RowKit

variable {S S' : Nat → Prop}

theorem put_step {m n k : Nat} {x : List UInt8} {y : Nat} (hk : k < m) (hx : x = putTo (List.replicate m 0) 0 m n k) (hy : y = n / 2 ^ (8 * k)) {j : Nat} (hj : j = 0 + (m - 1 - k) := by omega) : x.set j (UInt8.ofNat (y % 256)) = putTo (List.replicate m 0) 0 m n (k + 1) := by
 rw [putTo, ← hx, ← hy, hj]
 congr 1
 rw [← UInt8.toNat_inj, UInt8.toNat_ofNat', UInt8.toNat_ofNat']; omega
theorem div_step {n k y : Nat} (hy : y = n / 2 ^ (8 * k)) : y / 256 = n / 2 ^ (8 * (k + 1)) := by
 rw [hy, Nat.div_div_eq_div_mul, show 8 * (k + 1) = 8 * k + 8 by omega, Nat.pow_add]
theorem sector_fin {w w' : World} {base : Nat} {e : TypeId} {v : Value} {n : Nat} {l : List UInt8} (h : w'.ownsRow base e 1 v n (byteVals l)) (hl : l.length = 128) (hb : w.heap.size ≤ base) (hx : Ext w w') :
  ∃ A c, Ending.returned v = .returned (.slice A 128 c) ∧ Fl (fun b => w.heap.size ≤ b) w' 1 (.slice A 128 c) 128 (byteVals l) ∧ Ext w w' := by
 have h1 := h.1
 rw [byteVals_len hl] at h1
 have hn : n = 128 := by omega
 subst hn
 have hf := Fl.own (S := fun b => w.heap.size ≤ b) h (fun b hbb => by omega) (byteVals_one _)
 obtain ⟨A, c, rfl, _⟩ := hf.form
 exact ⟨A, c, rfl, hf, hx⟩

set_option maxRecDepth 100000 in
set_option maxHeartbeats 1000000 in
theorem numeral_any (n m : Nat) (w : World) (hn : n < 18446744073709551616) (hm : m ≤ 8) (hm0 : 1 ≤ m) :
  Calls Try.prog 66 #[.int .u64 (n : Nat), .int .i64 (m : Nat)] w (fun e w' => ∃ g, w.heap.size ≤ g ∧ e = .returned (.slice (some ⟨g, 0, none⟩) m m) ∧ Blk w' g 5 (byteVals (numL n m)) ∧ Ext w w') := by
 refine calls_enter (l := [(.int .u64 (n : Nat)), (.int .i64 (m : Nat))]) Try.func66 rfl rfl rfl (fun aA hF => ?_)
 refine wp_seq_k (fun K1 hK1 => ?_)
 refine wp_region_lit ?_
 refine qv 0 (.slice none 0 0) hF rfl (rn_assign rfl) fun _ F3 => ?_; clear hF
 refine wpList_nil ?_
 refine hK1 _ _ ?_
 clear hK1
 refine wp_seq_k (fun K4 hK4 => ?_)
 refine wp_region_lit ?_
 refine qv 0 (.int .i64 (m : Nat)) F3 rfl (rn_move (F3.get rfl)) fun _ F6 => ?_; clear F3
 refine wpl_op (i := 1) rfl (o_new (fun g => (.slice (some ⟨g, 0, none⟩) m m)) (byteVals (List.replicate m 0)) 5 F6 rfl rfl rfl rfl (rn_makeN El35 rfl (F6.get rfl) (F6.get rfl) (by omega) (by omega) (by simp [byteVals])) ?_)
 intro g7 w8 a13 F14 z11 z12 b9 hx10; clear F6
 refine qv 2 (.slice (some ⟨g7, 0, none⟩) m m) F14 rfl (rn_assign (F14.get rfl)) fun _ F16 => ?_; clear F14
 refine wpList_nil ?_
 refine hK4 _ _ ?_
 clear hK4
 refine wp_seq_k (fun K17 hK17 => ?_)
 refine wp_seq_k (fun K18 hK18 => ?_)
 refine wp_region_lit ?_
 refine qv 0 (.int .i64 (m : Nat)) F16 rfl (rn_move (F16.get rfl)) fun _ F20 => ?_; clear F16
 refine qv 1 (.int .i64 (m - 1 : Nat)) F20 rfl (rn_subN (a := m) (b := 1) (F20.get rfl) rfl (by omega) (by omega)) fun _ F22 => ?_; clear F20
 refine qv 2 (.int .i64 (m - 1 : Nat)) F22 rfl (rn_assign (F22.get rfl)) fun _ F24 => ?_; clear F22
 refine wpList_nil ?_
 refine hK18 _ _ ?_
 clear hK18
 have F25 := (((((F24.nil.c F24 6 rfl).c F24 5 rfl).c F24 4 rfl).c F24 1 rfl).c F24 0 rfl)
 clear F24
 refine wp_block ?_
 refine wp_loop (fun a' W => ∃ (k : Nat) (x : List UInt8) (y : Nat), Sl 24 [(0, (.int .u64 (y : Nat))), (1, (.int .i64 (m : Nat))), (4, (.slice none 0 0)), (5, (.slice (some ⟨g7, 0, none⟩) m m)), (6, (.int .i64 (((m : Nat) : Int) - 1 - (k : Nat))))] a' ∧ k ≤ m ∧ x = putTo (List.replicate m 0) 0 m n k ∧ y = n / 2 ^ (8 * k) ∧ Ext w W ∧ Blk W g7 5 (byteVals x) ∧ w8.heap.size ≤ W.heap.size) (fun a' _ => (intOf (a'.eval (.tmp 6)) + 1).toNat) ⟨0, (List.replicate m 0), n, (((((F25.nil.cons (q_get F25 (t := 6) rfl (by first | rfl | (congr 1; omega) | (congr 1; done)))).cons (q_get F25 (t := 5) rfl rfl)).cons (q_get F25 (t := 4) rfl rfl)).cons (q_get F25 (t := 1) rfl rfl)).cons (q_get F25 (t := 0) rfl (by first | rfl | (congr 1; omega) | (congr 1; done)))), (by omega), rfl, (by simp), ((Ext.refl w).trans hx10), b9, (Nat.le_refl _)⟩ ?_
 clear F25
 rintro a26 w27 ⟨k, x, y, F28, hp30, hp31, hp32, hx29, b33, hf34⟩
 have hL35 := F28
 have z36 := hx29.size
 have z37 := b33.lt
 have hxl : x.length = m := by rw [hp31, putTo_len, List.length_replicate]
 have z38 : y < 18446744073709551616 := by rw [hp32]; exact Nat.lt_of_le_of_lt (Nat.div_le_self _ _) hn
 refine wp_seq_k (fun K39 hK39 => ?_)
 refine wp_seq_k (fun K40 hK40 => ?_)
 refine wp_region_lit ?_
 refine qv 0 (.int .i64 (((m : Nat) : Int) - 1 - (k : Nat))) F28 rfl (rn_move (F28.get rfl)) fun _ F42 => ?_; clear F28
 refine qv 1 (.bool (decide ((0 : Int) ≤ (((m : Nat) : Int) - 1 - (k : Nat) : Int)))) F42 rfl (rn_geq (F42.get rfl) rfl) fun _ F44 => ?_; clear F42
 refine wpList_nil ?_
 refine hK40 _ _ ?_
 clear hK40
 by_cases hc45 : (0 : Int) ≤ (((m : Nat) : Int) - 1 - (k : Nat) : Int)
 ·skip
  refine wp_cond_true (c_true F44 rfl (decide_eq_true hc45)) ?_
  refine wp_skip ?_
  refine hK39 _ _ ?_
  clear hK39
  refine wp_seq_k (fun K46 hK46 => ?_)
  refine wp_block ?_
  refine wp_seq_k (fun K47 hK47 => ?_)
  refine wp_region_lit ?_
  refine qv 0 (.slice (some ⟨g7, 0, none⟩) m m) F44 rfl (rn_move (F44.get rfl)) fun _ F49 => ?_; clear F44
  refine qv 1 (.int .i64 (((m : Nat) : Int) - 1 - (k : Nat))) F49 rfl (rn_move (F49.get rfl)) fun _ F51 => ?_; clear F49
  refine qv 2 (.int .u64 (y : Nat)) F51 rfl (rn_move (F51.get rfl)) fun _ F53 => ?_; clear F51
  refine qv 3 (.int .u64 (y % 256 : Nat)) F53 rfl (rn_remU (a := y) (b := 256) (F53.get rfl) rfl (by omega)) fun _ F55 => ?_; clear F53
  refine qv 4 (.int .u8 ((UInt8.ofNat (y % 256)).toNat : Nat)) F55 rfl (rn_convW Try.underlying68 Try.underlying5 (F55.get rfl) (cvi_8 (y % 256))) fun _ F57 => ?_; clear F55
  refine qv 5 (.pointer (some ⟨g7, 0 + (((m : Nat) : Int) - 1 - (k : Nat) : Int).toNat, none⟩)) F57 rfl (rn_index1 Try.underlying35 inf5 (F57.get rfl) (F57.get rfl) (by omega : (0 : Int) ≤ ((m : Nat) : Int) - 1 - (k : Nat)) (by omega : (((m : Nat) : Int) - 1 - (k : Nat) : Int) < ((m : Nat) : Int))) fun _ F59 => ?_; clear F57
  refine wpl_op (i := 6) rfl (o_store1 (new := (byteVals (x.set ((((m : Nat) : Int) - 1 - (k : Nat) : Int).toNat) (UInt8.ofNat (y % 256))))) F59 rfl rfl rfl rfl (F59.get rfl) (F59.get rfl) b33 inf5 (by rw [byteVals_len hxl]; omega) rfl (byteVals_set (by omega)) ?_)
  intro w60 b61 hg62; have z63 := hg62.size
  refine wpList_nil ?_
  refine hK47 _ _ ?_
  clear hK47
  have F64 := ((((((F59.nil.c F59 12 rfl).c F59 6 rfl).c F59 5 rfl).c F59 4 rfl).c F59 1 rfl).c F59 0 rfl)
  clear F59
  refine wp_region_lit ?_
  refine qv 0 (.int .u64 (y : Nat)) F64 rfl (rn_move (F64.get rfl)) fun _ F66 => ?_; clear F64
  refine qv 1 (.int .u64 (y / 256 : Nat)) F66 rfl (rn_quoU (a := y) (b := 256) (F66.get rfl) rfl (by omega) (by omega)) fun _ F68 => ?_; clear F66
  refine qv 2 (.int .u64 (y / 256 : Nat)) F68 rfl (rn_assign (F68.get rfl)) fun _ F70 => ?_; clear F68
  refine wpList_nil ?_
  refine hK46 _ _ ?_
  clear hK46
  refine wp_region_lit ?_
  refine qv 0 (.int .i64 (((m : Nat) : Int) - 1 - (k : Nat))) F70 rfl (rn_move (F70.get rfl)) fun _ F72 => ?_; clear F70
  refine qv 1 (.int .i64 ((((m : Nat) : Int) - 1 - (k : Nat)) - 1)) F72 rfl (rn_sub (F72.get rfl) rfl (by omega) (by omega)) fun _ F74 => ?_; clear F72
  refine qv 2 (.int .i64 ((((m : Nat) : Int) - 1 - (k : Nat)) - 1)) F74 rfl (rn_assign (F74.get rfl)) fun _ F76 => ?_; clear F74
  refine wpList_nil ?_
  refine ⟨⟨(k + 1), x.set ((((m : Nat) : Int) - 1 - (k : Nat) : Int).toNat) (UInt8.ofNat (y % 256)), y / 256, (((((F76.nil.cons (q_get F76 (t := 6) rfl (by first | rfl | (congr 1; omega) | (congr 1; done)))).cons (q_get F76 (t := 5) rfl rfl)).cons (q_get F76 (t := 4) rfl rfl)).cons (q_get F76 (t := 1) rfl rfl)).cons (q_get F76 (t := 0) rfl (by first | rfl | (congr 1; omega) | (congr 1; done)))), (by omega), (put_step (by omega) hp31 hp32), (div_step hp32), (((Ext.refl w).trans hx29).grownN hg62 (by omega)), b61, (by omega)⟩, ?_⟩
  rw [F76.get (t := 6) rfl, hL35.get (t := 6) rfl]; simp [intOf] <;> omega
 ·skip
  refine wp_cond_false (c_false F44 rfl (decide_eq_false hc45)) ?_
  refine wp_exit ?_
  refine exit_then ?_
  refine exit_then ?_
  refine exit_here ?_
  refine hK17 _ _ ?_
  clear hK17
  refine wp_seq_k (fun K77 hK77 => ?_)
  refine wp_region_lit ?_
  refine qv 0 (.slice (some ⟨g7, 0, none⟩) m m) F44 rfl (rn_move (F44.get rfl)) fun _ F79 => ?_; clear F44
  refine qv 1 (.slice (some ⟨g7, 0, none⟩) m m) F79 rfl (rn_assign (F79.get rfl)) fun _ F81 => ?_; clear F79
  refine wpList_nil ?_
  refine hK77 _ _ ?_
  clear hK77
  refine wp_ret ?_
  refine ret1 F81 rfl rfl ?_
  have hk : k = m := by omega
  have hx := hp31
  rw [hk] at hx
  have hp := putL_app [] (List.replicate m 0) [] n
  simp only [List.nil_append, List.append_nil, List.length_nil, List.length_replicate] at hp
  exact ⟨_, by omega, rfl, (by rw [← hp, putL, ← hx]; exact b33), ((Ext.refl w).trans hx29)⟩

set_option maxRecDepth 100000 in
set_option maxHeartbeats 1000000 in
theorem sector_any (n k : Nat) (b1 b2 : Bool) (A : Option Addr) (c : Nat) (b : List UInt8) (w : World) (hf : Fl S w 1 (.slice A b.length c) b.length (byteVals b)) (hb : b.length ≤ 112) (hn : n < 18446744073709551616) (hk : k < 65536) :
  Calls Try.prog 47 #[.int .u64 (n : Nat), .int .i64 (k : Nat), .bool b1, .bool b2, .slice A b.length c] w (fun e w' => ∃ A c, e = .returned (.slice A 128 c) ∧ Fl (fun b => w.heap.size ≤ b) w' 1 (.slice A 128 c) 128 (byteVals (encL n k (kindOf b1 b2) b)) ∧ Ext w w') := by
 have hc : Fl (Clip S w) w 1 (.slice A b.length c) b.length (byteVals b) := hf.clip
 have hcc := (Fl.cel hc).2.1
 refine calls_enter (l := [(.int .u64 (n : Nat)), (.int .i64 (k : Nat)), (.bool b1), (.bool b2), (.slice A b.length c)]) Try.func47 rfl rfl rfl (fun aA hF => ?_)
 refine wp_seq_k (fun K1 hK1 => ?_)
 refine wp_region_lit ?_
 refine qv 0 (.slice none 0 0) hF rfl (rn_assign rfl) fun _ F3 => ?_; clear hF
 refine wpList_nil ?_
 refine hK1 _ _ ?_
 clear hK1
 refine wp_seq_k (fun K4 hK4 => ?_)
 refine wp_region_lit ?_
 refine qv 0 (.int .u8 0) F3 rfl (rn_assign rfl) fun _ F6 => ?_; clear F3
 refine wpList_nil ?_
 refine hK4 _ _ ?_
 clear hK4
 refine wp_seq_k (fun K7 hK7 => ?_)
 refine wp_seq_k (fun K8 hK8 => ?_)
 refine wp_region_lit ?_
 refine qv 0 (.bool b1) F6 rfl (rn_move (F6.get rfl)) fun _ F10 => ?_; clear F6
 refine wpList_nil ?_
 refine hK8 _ _ ?_
 clear hK8
 rcases Bool.eq_false_or_eq_true b1 with hc11 | hc11
 ·skip
  refine wp_cond_true (c_true F10 rfl hc11) ?_
  refine wp_region_lit ?_
  refine qv 0 (.int .u8 0) F10 rfl (rn_move (F10.get rfl)) fun _ F13 => ?_; clear F10
  refine qv 1 (.int .u8 1) F13 rfl (rn_bin (v := .int .u8 1) (F13.get rfl) rfl guard_int (by kernel_rfl)) fun _ F15 => ?_; clear F13
  refine qv 2 (.int .u8 1) F15 rfl (rn_assign (F15.get rfl)) fun _ F17 => ?_; clear F15
  refine wpList_nil ?_
  refine hK7 _ _ ?_
  clear hK7
  refine wp_seq_k (fun K18 hK18 => ?_)
  refine wp_seq_k (fun K19 hK19 => ?_)
  refine wp_region_lit ?_
  refine qv 0 (.bool b2) F17 rfl (rn_move (F17.get rfl)) fun _ F21 => ?_; clear F17
  refine wpList_nil ?_
  refine hK19 _ _ ?_
  clear hK19
  rcases Bool.eq_false_or_eq_true b2 with hc22 | hc22
  ·skip
   refine wp_cond_true (c_true F21 rfl hc22) ?_
   refine wp_region_lit ?_
   refine qv 0 (.int .u8 1) F21 rfl (rn_move (F21.get rfl)) fun _ F24 => ?_; clear F21
   refine qv 1 (.int .u8 3) F24 rfl (rn_bin (v := .int .u8 3) (F24.get rfl) rfl guard_int (by kernel_rfl)) fun _ F26 => ?_; clear F24
   refine qv 2 (.int .u8 3) F26 rfl (rn_assign (F26.get rfl)) fun _ F28 => ?_; clear F26
   refine wpList_nil ?_
   refine hK18 _ _ ?_
   clear hK18
   have F29 := (((((((((F28.nil.c F28 17 rfl).c F28 14 rfl).c F28 11 rfl).c F28 10 rfl).c F28 4 rfl).c F28 3 rfl).c F28 2 rfl).c F28 1 rfl).c F28 0 rfl)
   clear F28
   refine wp_seq_k (fun K30 hK30 => ?_)
   refine wp_region_lit ?_
   refine qv 0 (.int .i64 (k : Nat)) F29 rfl (rn_move (F29.get rfl)) fun _ F32 => ?_; clear F29
   refine qv 1 (.int .u64 (k : Nat)) F32 rfl (rn_convW Try.underlying3 Try.underlying68 (F32.get rfl) (cvn_64 k (by omega))) fun _ F34 => ?_; clear F32
   refine wpl_op (i := 2) rfl (o_call F34 rfl rfl rfl rfl (rn_call (args2 (F34.get rfl) rfl) rfl (by kernel_rfl)) (numeral_any k 2 _ (by omega) (by omega) (by omega)) ?_)
   rintro _ w38 ⟨g35, z36, rfl, b37, hx39⟩
   refine ⟨_, rfl, ?_⟩; intro a40 F41; clear F34; have z42 := hx39.size
   have z43 := b37.lt
   refine qv 3 (.int .u8 3) F41 rfl (rn_move (F41.get rfl)) fun _ F45 => ?_; clear F41
   refine qv 4 (.slice A b.length c) F45 rfl (rn_move (F45.get rfl)) fun _ F47 => ?_; clear F45
   refine qv 5 (.int .i64 (b.length : Nat)) F47 rfl (rn_len_slice Try.underlying35 (F47.get rfl)) fun _ F49 => ?_; clear F47
   refine qv 6 (.int .u8 ((UInt8.ofNat b.length).toNat : Nat)) F49 rfl (rn_convW Try.underlying3 Try.underlying5 (F49.get rfl) (cvi_8 b.length)) fun _ F51 => ?_; clear F49
   refine wpl_op (i := 7) rfl (o_new (fun g => (.slice (some ⟨g, 0, none⟩) 2 2)) [(.int .u8 3), (.int .u8 ((UInt8.ofNat b.length).toNat : Nat))] 5 F51 rfl rfl rfl rfl (rn_buildSlice (parts2 (F51.get rfl) (F51.get rfl)) (by kernel_rfl)) ?_)
   intro g52 w53 a58 F59 z56 z57 b54 hx55; clear F51
   have b60 := (b37.ext hx55)
   have hf70 := (own_blkN (k := 1) (n := 2) (cs := byteVals (numL k 2)) b60 rfl (by omega))
   have nb71 : some g52 ≠ (Value.slice (some ⟨g35, 0, none⟩) 2 2).ownBlock := (ne_slice (n := 2) (c := 2) (by omega : g52 ≠ g35))
   have z72 := b54.lt
   refine wpl_op (i := 8) rfl (o_appB (zs := byteVals ((numL k 2) ++ ([(3 : UInt8), (UInt8.ofNat b.length)]))) El35 F59 rfl rfl rfl rfl rfl (F59.get rfl) (F59.get rfl) hf70 (Fl.cel (Fl.blk (S := fun b => b = g52) (k := 1) (n := 2) (c := 2) (cs := byteVals [(3 : UInt8), (UInt8.ofNat b.length)]) b54 rfl (byteVals_one _) (by omega) rfl)).2.2 (by omega) (by omega) (by omega) (byteVals_app _ _) ?_)
   intro A62 c63 w64 a73 F74 r65 hg66 z67 z68 hnb69; clear F59; have z75 := hg66.size
   have nb76 := hnb69 g52 (by omega) nb71
   have hg77 : w53.grownBy w64 (some g35) := hg66
   refine qv 9 (.slice A62 (2 + 2) c63) F74 rfl (rn_assign (F74.get rfl)) fun _ F79 => ?_; clear F74
   refine wpList_nil ?_
   refine hK30 _ _ ?_
   clear hK30
   have F80 := ((((((((((F79.nil.c F79 12 rfl).c F79 17 rfl).c F79 14 rfl).c F79 11 rfl).c F79 10 rfl).c F79 4 rfl).c F79 3 rfl).c F79 2 rfl).c F79 1 rfl).c F79 0 rfl)
   clear F79
   refine wp_seq_k (fun K81 hK81 => ?_)
   refine wp_region_lit ?_
   refine qv 0 (.slice A62 (2 + 2) c63) F80 rfl (rn_move (F80.get rfl)) fun _ F83 => ?_; clear F80
   refine qv 1 (.slice A b.length c) F83 rfl (rn_move (F83.get rfl)) fun _ F85 => ?_; clear F83
   have d86 := (hc.pres ((((Pres.refl w).ext hx39).ext hx55).grownN hg77 (fun h => by simp only [Clip] at h; omega)))
   have hf95 := r65
   have b96 := (b54.grown hg66 nb71)
   have nb97 : some g52 ≠ (Value.slice A62 (2 + 2) c63).ownBlock := nb76
   have z98 := b96.lt
   refine wpl_op (i := 2) rfl (o_appB (zs := byteVals (((numL k 2) ++ ([(3 : UInt8), (UInt8.ofNat b.length)])) ++ b)) El35 F85 rfl rfl rfl rfl rfl (F85.get rfl) (F85.get rfl) hf95 (Fl.cel d86).2.2 (by omega) (by omega) (by omega) (byteVals_app _ _) ?_)
   intro A87 c88 w89 a99 F100 r90 hg91 z92 z93 hnb94; clear F85; have z101 := hg91.size
   have nb102 := hnb94 g52 (by omega) nb97
   refine qv 3 (.slice A87 ((2 + 2) + b.length) c88) F100 rfl (rn_assign (F100.get rfl)) fun _ F104 => ?_; clear F100
   refine wpList_nil ?_
   refine hK81 _ _ ?_
   clear hK81
   refine wp_seq_k (fun K105 hK105 => ?_)
   refine wp_region_lit ?_
   refine qv 0 (.slice A87 ((2 + 2) + b.length) c88) F104 rfl (rn_move (F104.get rfl)) fun _ F107 => ?_; clear F104
   refine qv 1 (.slice A b.length c) F107 rfl (rn_move (F107.get rfl)) fun _ F109 => ?_; clear F107
   refine qv 2 (.int .i64 (b.length : Nat)) F109 rfl (rn_len_slice Try.underlying35 (F109.get rfl)) fun _ F111 => ?_; clear F109
   refine qv 3 (.int .i64 (112 - b.length : Nat)) F111 rfl (rn_subN (a := 112) (b := b.length) rfl (F111.get rfl) (by omega) (by omega)) fun _ F113 => ?_; clear F111
   have hf122 := r90
   have b123 := (b96.grown hg91 nb97)
   have nb124 : some g52 ≠ (Value.slice A87 ((2 + 2) + b.length) c88).ownBlock := nb102
   have z125 := b123.lt
   refine wpl_op (i := 4) rfl (o_appZ (zs := byteVals ((((numL k 2) ++ ([(3 : UInt8), (UInt8.ofNat b.length)])) ++ b) ++ List.replicate (112 - b.length) 0)) El35 Try.underlying3 F113 rfl rfl rfl rfl rfl (F113.get rfl) (F113.get rfl) hf122 (by omega) (by omega) (byteVals_app _ _) ?_)
   intro A114 c115 w116 a126 F127 r117 hg118 z119 z120 hnb121; clear F113; have z128 := hg118.size
   have nb129 := hnb121 g52 (by omega) nb124
   refine qv 5 (.slice A114 (((2 + 2) + b.length) + (112 - b.length)) c115) F127 rfl (rn_assign (F127.get rfl)) fun _ F131 => ?_; clear F127
   refine wpList_nil ?_
   refine hK105 _ _ ?_
   clear hK105
   have F132 := ((((((((((F131.nil.c F131 12 rfl).c F131 17 rfl).c F131 14 rfl).c F131 11 rfl).c F131 10 rfl).c F131 4 rfl).c F131 3 rfl).c F131 2 rfl).c F131 1 rfl).c F131 0 rfl)
   clear F131
   refine wp_seq_k (fun K133 hK133 => ?_)
   refine wp_region_lit ?_
   refine qv 0 (.int .u64 (n : Nat)) F132 rfl (rn_move (F132.get rfl)) fun _ F135 => ?_; clear F132
   have hf139 := r117
   refine wpl_op (i := 1) rfl (o_call F135 rfl rfl rfl rfl (rn_call (args2 (F135.get rfl) rfl) rfl (by kernel_rfl)) (numeral_any n 4 _ (by omega) (by omega) (by omega)) ?_)
   rintro _ w140 ⟨g136, z137, rfl, b138, hx141⟩
   refine ⟨_, rfl, ?_⟩; intro a142 F143; clear F135; have z144 := hx141.size
   have z145 := b138.lt
   have nb146 := own_newer (g := g136) hf139 (by omega)
   refine qv 2 (.slice A114 (((2 + 2) + b.length) + (112 - b.length)) c115) F143 rfl (rn_move (F143.get rfl)) fun _ F148 => ?_; clear F143
   have r149 := (own_ext r117 hx141)
   have z150 := UInt32.toNat_lt (crc ((((numL k 2) ++ ([(3 : UInt8), (UInt8.ofNat b.length)])) ++ b) ++ List.replicate (112 - b.length) 0))
   refine wpl_op (i := 3) rfl (o_call F148 rfl rfl rfl rfl (rn_call (args1 (F148.get rfl)) rfl (by kernel_rfl)) (checksum_at (v := (.slice A114 (((2 + 2) + b.length) + (112 - b.length)) c115)) (m := ((2 + 2) + b.length) + (112 - b.length)) ((((numL k 2) ++ ([(3 : UInt8), (UInt8.ofNat b.length)])) ++ b) ++ List.replicate (112 - b.length) 0) _ (Fl.own (S := fun b => g35 ≤ b) r149 (fun b hb => hb) (byteVals_one _))) ?_)
   rintro _ w151 ⟨rfl, hx152⟩
   refine ⟨_, rfl, ?_⟩; intro a153 F154; clear F148; have z155 := hx152.size
   refine qv 4 (.int .u64 ((crc ((((numL k 2) ++ ([(3 : UInt8), (UInt8.ofNat b.length)])) ++ b) ++ List.replicate (112 - b.length) 0)).toNat : Nat)) F154 rfl (rn_convW Try.underlying91 Try.underlying68 (F154.get rfl) (cvn_64 ((crc ((((numL k 2) ++ ([(3 : UInt8), (UInt8.ofNat b.length)])) ++ b) ++ List.replicate (112 - b.length) 0)).toNat) (by omega))) fun _ F157 => ?_; clear F154
   have r161 := (own_ext r149 hx152)
   have hf162 := r161
   refine wpl_op (i := 5) rfl (o_call F157 rfl rfl rfl rfl (rn_call (args2 (F157.get rfl) rfl) rfl (by kernel_rfl)) (numeral_any ((crc ((((numL k 2) ++ ([(3 : UInt8), (UInt8.ofNat b.length)])) ++ b) ++ List.replicate (112 - b.length) 0)).toNat) 4 _ (by omega) (by omega) (by omega)) ?_)
   rintro _ w163 ⟨g158, z159, rfl, b160, hx164⟩
   refine ⟨_, rfl, ?_⟩; intro a165 F166; clear F157; have z167 := hx164.size
   have z168 := b160.lt
   have nb169 := own_newer (g := g158) hf162 (by omega)
   have b170 := ((b138.ext hx152).ext hx164)
   have hf180 := (own_blkN (k := 1) (n := 4) (cs := byteVals (numL n 4)) b170 rfl (by omega))
   have b181 := ((((b123.grown hg118 nb124).ext hx141).ext hx152).ext hx164)
   have nb182 : some g52 ≠ (Value.slice (some ⟨g136, 0, none⟩) 4 4).ownBlock := (ne_slice (n := 4) (c := 4) (by omega : g52 ≠ g136))
   have z183 := b181.lt
   have nb184 : some g158 ≠ (Value.slice (some ⟨g136, 0, none⟩) 4 4).ownBlock := (ne_slice (n := 4) (c := 4) (by omega : g158 ≠ g136))
   have z185 := b160.lt
   have r186 := (own_ext r161 hx164)
   have hf187 := r186
   have ap188 : Apart (.slice A114 (((2 + 2) + b.length) + (112 - b.length)) c115) (.slice (some ⟨g136, 0, none⟩) 4 4) := (Apart.of_ne (n := 4) (c := 4) nb146)
   refine wpl_op (i := 6) rfl (o_appB (zs := byteVals ((numL n 4) ++ (numL ((crc ((((numL k 2) ++ ([(3 : UInt8), (UInt8.ofNat b.length)])) ++ b) ++ List.replicate (112 - b.length) 0)).toNat) 4))) El35 F166 rfl rfl rfl rfl rfl (F166.get rfl) (F166.get rfl) hf180 (Fl.cel (Fl.blk (S := fun b => b = g158) (k := 1) (n := 4) (c := 4) b160 (by rw [byteVals_len (numL_len _ _), Nat.mul_one]) (byteVals_one _) (by omega) rfl)).2.2 (by omega) (by omega) (by omega) (byteVals_app _ _) ?_)
   intro A172 c173 w174 a189 F190 r175 hg176 z177 z178 hnb179; clear F166; have z191 := hg176.size
   have nb192 := hnb179 g52 (by omega) nb182
   have nb193 := hnb179 g158 (by omega) nb184
   have ap194 := Apart.app hf187 ap188 hnb179
   have hg195 : w163.grownBy w174 (some g136) := hg176
   refine qv 7 (.slice A172 (4 + 4) c173) F190 rfl (rn_assign (F190.get rfl)) fun _ F197 => ?_; clear F190
   refine wpList_nil ?_
   refine hK133 _ _ ?_
   clear hK133
   have F198 := (((((((((((F197.nil.c F197 13 rfl).c F197 12 rfl).c F197 17 rfl).c F197 14 rfl).c F197 11 rfl).c F197 10 rfl).c F197 4 rfl).c F197 3 rfl).c F197 2 rfl).c F197 1 rfl).c F197 0 rfl)
   clear F197
   refine wp_seq_k (fun K199 hK199 => ?_)
   refine wp_region_lit ?_
   refine qv 0 (.slice A172 (4 + 4) c173) F198 rfl (rn_move (F198.get rfl)) fun _ F201 => ?_; clear F198
   refine qv 1 (.slice A114 (((2 + 2) + b.length) + (112 - b.length)) c115) F201 rfl (rn_move (F201.get rfl)) fun _ F203 => ?_; clear F201
   have r204 := (own_grownR r186 hg176 ap188)
   have hf213 := r175
   have b214 := (b181.grown hg176 nb182)
   have nb215 : some g52 ≠ (Value.slice A172 (4 + 4) c173).ownBlock := nb192
   have z216 := b214.lt
   have b217 := (b160.grown hg176 nb184)
   have nb218 : some g158 ≠ (Value.slice A172 (4 + 4) c173).ownBlock := nb193
   have z219 := b217.lt
   have hf220 := r204
   have ap221 : Apart (.slice A114 (((2 + 2) + b.length) + (112 - b.length)) c115) (.slice A172 (4 + 4) c173) := ap194
   refine wpl_op (i := 2) rfl (o_appB (zs := byteVals (((numL n 4) ++ (numL ((crc ((((numL k 2) ++ ([(3 : UInt8), (UInt8.ofNat b.length)])) ++ b) ++ List.replicate (112 - b.length) 0)).toNat) 4)) ++ ((((numL k 2) ++ ([(3 : UInt8), (UInt8.ofNat b.length)])) ++ b) ++ List.replicate (112 - b.length) 0))) El35 F203 rfl rfl rfl rfl rfl (F203.get rfl) (F203.get rfl) hf213 (Fl.cel (Fl.own (S := fun b => g35 ≤ b) r204 (fun b hb => hb) (byteVals_one _))).2.2 (by omega) (by omega) (by omega) (byteVals_app _ _) ?_)
   intro A205 c206 w207 a222 F223 r208 hg209 z210 z211 hnb212; clear F203; have z224 := hg209.size
   have nb225 := hnb212 g52 (by omega) nb215
   have nb226 := hnb212 g158 (by omega) nb218
   have ap227 := Apart.app hf220 ap221 hnb212
   refine qv 3 (.int .u64 (n : Nat)) F223 rfl (rn_move (F223.get rfl)) fun _ F229 => ?_; clear F223
   have r233 := (own_grownR r204 hg209 ap221)
   have hf234 := r233
   have hf235 := r208
   refine wpl_op (i := 4) rfl (o_call F229 rfl rfl rfl rfl (rn_call (args2 (F229.get rfl) rfl) rfl (by kernel_rfl)) (numeral_any n 4 _ (by omega) (by omega) (by omega)) ?_)
   rintro _ w236 ⟨g230, z231, rfl, b232, hx237⟩
   refine ⟨_, rfl, ?_⟩; intro a238 F239; clear F229; have z240 := hx237.size
   have z241 := b232.lt
   have nb242 := own_newer (g := g230) hf234 (by omega)
   have nb243 := own_newer (g := g230) hf235 (by omega)
   have r244 := (own_ext r208 hx237)
   have hf253 := r244
   have b254 := ((b214.grown hg209 nb215).ext hx237)
   have nb255 : some g52 ≠ (Value.slice A205 ((4 + 4) + (((2 + 2) + b.length) + (112 - b.length))) c206).ownBlock := nb225
   have z256 := b254.lt
   have b257 := ((b217.grown hg209 nb218).ext hx237)
   have nb258 : some g158 ≠ (Value.slice A205 ((4 + 4) + (((2 + 2) + b.length) + (112 - b.length))) c206).ownBlock := nb226
   have z259 := b257.lt
   have nb260 : some g230 ≠ (Value.slice A205 ((4 + 4) + (((2 + 2) + b.length) + (112 - b.length))) c206).ownBlock := nb243
   have z261 := b232.lt
   have r262 := (own_ext r233 hx237)
   have hf263 := r262
   have ap264 : Apart (.slice A114 (((2 + 2) + b.length) + (112 - b.length)) c115) (.slice A205 ((4 + 4) + (((2 + 2) + b.length) + (112 - b.length))) c206) := ap227
   refine wpl_op (i := 5) rfl (o_appB (zs := byteVals ((((numL n 4) ++ (numL ((crc ((((numL k 2) ++ ([(3 : UInt8), (UInt8.ofNat b.length)])) ++ b) ++ List.replicate (112 - b.length) 0)).toNat) 4)) ++ ((((numL k 2) ++ ([(3 : UInt8), (UInt8.ofNat b.length)])) ++ b) ++ List.replicate (112 - b.length) 0)) ++ (numL n 4))) El35 F239 rfl rfl rfl rfl rfl (F239.get rfl) (F239.get rfl) hf253 (Fl.cel (Fl.blk (S := fun b => b = g230) (k := 1) (n := 4) (c := 4) b232 (by rw [byteVals_len (numL_len _ _), Nat.mul_one]) (byteVals_one _) (by omega) rfl)).2.2 (by omega) (by omega) (by omega) (byteVals_app _ _) ?_)
   intro A245 c246 w247 a265 F266 r248 hg249 z250 z251 hnb252; clear F239; have z267 := hg249.size
   have nb268 := hnb252 g52 (by omega) nb255
   have nb269 := hnb252 g158 (by omega) nb258
   have nb270 := hnb252 g230 (by omega) nb260
   have ap271 := Apart.app hf263 ap264 hnb252
   refine qv 6 (.slice A245 (((4 + 4) + (((2 + 2) + b.length) + (112 - b.length))) + 4) c246) F266 rfl (rn_assign (F266.get rfl)) fun _ F273 => ?_; clear F266
   refine wpList_nil ?_
   refine hK199 _ _ ?_
   clear hK199
   have F274 := (((((((((((F273.nil.c F273 13 rfl).c F273 12 rfl).c F273 17 rfl).c F273 14 rfl).c F273 11 rfl).c F273 10 rfl).c F273 4 rfl).c F273 3 rfl).c F273 2 rfl).c F273 1 rfl).c F273 0 rfl)
   clear F273
   refine wp_ret ?_
   refine ret1 F274 rfl rfl ?_
   subst hc11 hc22
   have hq : (((numL n 4) ++ (numL ((crc ((((numL k 2) ++ ([(3 : UInt8), (UInt8.ofNat b.length)])) ++ b) ++ List.replicate (112 - b.length) 0)).toNat) 4)) ++ ((((numL k 2) ++ ([(3 : UInt8), (UInt8.ofNat b.length)])) ++ b) ++ List.replicate (112 - b.length) 0)) ++ (numL n 4) = encL n k (kindOf true true) b := by rw [encL, bodyL]; simp only [List.append_assoc]; rfl
   rw [hq] at r248
   have hl := (r248).1
   rw [byteVals_len (encL_len hb)] at hl
   exact sector_fin r248 (encL_len hb) (by omega) (ext_row ((ext_row (((((ext_row (ext_row ((((Ext.refl w).trans hx39).trans hx55).grownN hg77 (by omega)) hg91 hf95 (by omega)) hg118 hf122 (by omega)).trans hx141).trans hx152).trans hx164).grownN hg195 (by omega)) hg209 hf213 (by omega)).trans hx237) hg249 hf253 (by omega))
  ·skip
   refine wp_cond_false (c_false F21 rfl hc22) ?_
   refine wp_skip ?_
   refine hK18 _ _ ?_
   clear hK18
   refine wp_seq_k (fun K275 hK275 => ?_)
   refine wp_region_lit ?_
   refine qv 0 (.int .i64 (k : Nat)) F21 rfl (rn_move (F21.get rfl)) fun _ F277 => ?_; clear F21
   refine qv 1 (.int .u64 (k : Nat)) F277 rfl (rn_convW Try.underlying3 Try.underlying68 (F277.get rfl) (cvn_64 k (by omega))) fun _ F279 => ?_; clear F277
   refine wpl_op (i := 2) rfl (o_call F279 rfl rfl rfl rfl (rn_call (args2 (F279.get rfl) rfl) rfl (by kernel_rfl)) (numeral_any k 2 _ (by omega) (by omega) (by omega)) ?_)
   rintro _ w283 ⟨g280, z281, rfl, b282, hx284⟩
   refine ⟨_, rfl, ?_⟩; intro a285 F286; clear F279; have z287 := hx284.size
   have z288 := b282.lt
   refine qv 3 (.int .u8 1) F286 rfl (rn_move (F286.get rfl)) fun _ F290 => ?_; clear F286
   refine qv 4 (.slice A b.length c) F290 rfl (rn_move (F290.get rfl)) fun _ F292 => ?_; clear F290
   refine qv 5 (.int .i64 (b.length : Nat)) F292 rfl (rn_len_slice Try.underlying35 (F292.get rfl)) fun _ F294 => ?_; clear F292
   refine qv 6 (.int .u8 ((UInt8.ofNat b.length).toNat : Nat)) F294 rfl (rn_convW Try.underlying3 Try.underlying5 (F294.get rfl) (cvi_8 b.length)) fun _ F296 => ?_; clear F294
   refine wpl_op (i := 7) rfl (o_new (fun g => (.slice (some ⟨g, 0, none⟩) 2 2)) [(.int .u8 1), (.int .u8 ((UInt8.ofNat b.length).toNat : Nat))] 5 F296 rfl rfl rfl rfl (rn_buildSlice (parts2 (F296.get rfl) (F296.get rfl)) (by kernel_rfl)) ?_)
   intro g297 w298 a303 F304 z301 z302 b299 hx300; clear F296
   have b305 := (b282.ext hx300)
   have hf315 := (own_blkN (k := 1) (n := 2) (cs := byteVals (numL k 2)) b305 rfl (by omega))
   have nb316 : some g297 ≠ (Value.slice (some ⟨g280, 0, none⟩) 2 2).ownBlock := (ne_slice (n := 2) (c := 2) (by omega : g297 ≠ g280))
   have z317 := b299.lt
   refine wpl_op (i := 8) rfl (o_appB (zs := byteVals ((numL k 2) ++ ([(1 : UInt8), (UInt8.ofNat b.length)]))) El35 F304 rfl rfl rfl rfl rfl (F304.get rfl) (F304.get rfl) hf315 (Fl.cel (Fl.blk (S := fun b => b = g297) (k := 1) (n := 2) (c := 2) (cs := byteVals [(1 : UInt8), (UInt8.ofNat b.length)]) b299 rfl (byteVals_one _) (by omega) rfl)).2.2 (by omega) (by omega) (by omega) (byteVals_app _ _) ?_)
   intro A307 c308 w309 a318 F319 r310 hg311 z312 z313 hnb314; clear F304; have z320 := hg311.size
   have nb321 := hnb314 g297 (by omega) nb316
   have hg322 : w298.grownBy w309 (some g280) := hg311
   refine qv 9 (.slice A307 (2 + 2) c308) F319 rfl (rn_assign (F319.get rfl)) fun _ F324 => ?_; clear F319
   refine wpList_nil ?_
   refine hK275 _ _ ?_
   clear hK275
   have F325 := ((((((((((F324.nil.c F324 12 rfl).c F324 17 rfl).c F324 14 rfl).c F324 11 rfl).c F324 10 rfl).c F324 4 rfl).c F324 3 rfl).c F324 2 rfl).c F324 1 rfl).c F324 0 rfl)
   clear F324
   refine wp_seq_k (fun K326 hK326 => ?_)
   refine wp_region_lit ?_
   refine qv 0 (.slice A307 (2 + 2) c308) F325 rfl (rn_move (F325.get rfl)) fun _ F328 => ?_; clear F325
   refine qv 1 (.slice A b.length c) F328 rfl (rn_move (F328.get rfl)) fun _ F330 => ?_; clear F328
   have d331 := (hc.pres ((((Pres.refl w).ext hx284).ext hx300).grownN hg322 (fun h => by simp only [Clip] at h; omega)))
   have hf340 := r310
   have b341 := (b299.grown hg311 nb316)
   have nb342 : some g297 ≠ (Value.slice A307 (2 + 2) c308).ownBlock := nb321
   have z343 := b341.lt
   refine wpl_op (i := 2) rfl (o_appB (zs := byteVals (((numL k 2) ++ ([(1 : UInt8), (UInt8.ofNat b.length)])) ++ b)) El35 F330 rfl rfl rfl rfl rfl (F330.get rfl) (F330.get rfl) hf340 (Fl.cel d331).2.2 (by omega) (by omega) (by omega) (byteVals_app _ _) ?_)
   intro A332 c333 w334 a344 F345 r335 hg336 z337 z338 hnb339; clear F330; have z346 := hg336.size
   have nb347 := hnb339 g297 (by omega) nb342
   refine qv 3 (.slice A332 ((2 + 2) + b.length) c333) F345 rfl (rn_assign (F345.get rfl)) fun _ F349 => ?_; clear F345
   refine wpList_nil ?_
   refine hK326 _ _ ?_
   clear hK326
   refine wp_seq_k (fun K350 hK350 => ?_)
   refine wp_region_lit ?_
   refine qv 0 (.slice A332 ((2 + 2) + b.length) c333) F349 rfl (rn_move (F349.get rfl)) fun _ F352 => ?_; clear F349
   refine qv 1 (.slice A b.length c) F352 rfl (rn_move (F352.get rfl)) fun _ F354 => ?_; clear F352
   refine qv 2 (.int .i64 (b.length : Nat)) F354 rfl (rn_len_slice Try.underlying35 (F354.get rfl)) fun _ F356 => ?_; clear F354
   refine qv 3 (.int .i64 (112 - b.length : Nat)) F356 rfl (rn_subN (a := 112) (b := b.length) rfl (F356.get rfl) (by omega) (by omega)) fun _ F358 => ?_; clear F356
   have hf367 := r335
   have b368 := (b341.grown hg336 nb342)
   have nb369 : some g297 ≠ (Value.slice A332 ((2 + 2) + b.length) c333).ownBlock := nb347
   have z370 := b368.lt
   refine wpl_op (i := 4) rfl (o_appZ (zs := byteVals ((((numL k 2) ++ ([(1 : UInt8), (UInt8.ofNat b.length)])) ++ b) ++ List.replicate (112 - b.length) 0)) El35 Try.underlying3 F358 rfl rfl rfl rfl rfl (F358.get rfl) (F358.get rfl) hf367 (by omega) (by omega) (byteVals_app _ _) ?_)
   intro A359 c360 w361 a371 F372 r362 hg363 z364 z365 hnb366; clear F358; have z373 := hg363.size
   have nb374 := hnb366 g297 (by omega) nb369
   refine qv 5 (.slice A359 (((2 + 2) + b.length) + (112 - b.length)) c360) F372 rfl (rn_assign (F372.get rfl)) fun _ F376 => ?_; clear F372
   refine wpList_nil ?_
   refine hK350 _ _ ?_
   clear hK350
   have F377 := ((((((((((F376.nil.c F376 12 rfl).c F376 17 rfl).c F376 14 rfl).c F376 11 rfl).c F376 10 rfl).c F376 4 rfl).c F376 3 rfl).c F376 2 rfl).c F376 1 rfl).c F376 0 rfl)
   clear F376
   refine wp_seq_k (fun K378 hK378 => ?_)
   refine wp_region_lit ?_
   refine qv 0 (.int .u64 (n : Nat)) F377 rfl (rn_move (F377.get rfl)) fun _ F380 => ?_; clear F377
   have hf384 := r362
   refine wpl_op (i := 1) rfl (o_call F380 rfl rfl rfl rfl (rn_call (args2 (F380.get rfl) rfl) rfl (by kernel_rfl)) (numeral_any n 4 _ (by omega) (by omega) (by omega)) ?_)
   rintro _ w385 ⟨g381, z382, rfl, b383, hx386⟩
   refine ⟨_, rfl, ?_⟩; intro a387 F388; clear F380; have z389 := hx386.size
   have z390 := b383.lt
   have nb391 := own_newer (g := g381) hf384 (by omega)
   refine qv 2 (.slice A359 (((2 + 2) + b.length) + (112 - b.length)) c360) F388 rfl (rn_move (F388.get rfl)) fun _ F393 => ?_; clear F388
   have r394 := (own_ext r362 hx386)
   have z395 := UInt32.toNat_lt (crc ((((numL k 2) ++ ([(1 : UInt8), (UInt8.ofNat b.length)])) ++ b) ++ List.replicate (112 - b.length) 0))
   refine wpl_op (i := 3) rfl (o_call F393 rfl rfl rfl rfl (rn_call (args1 (F393.get rfl)) rfl (by kernel_rfl)) (checksum_at (v := (.slice A359 (((2 + 2) + b.length) + (112 - b.length)) c360)) (m := ((2 + 2) + b.length) + (112 - b.length)) ((((numL k 2) ++ ([(1 : UInt8), (UInt8.ofNat b.length)])) ++ b) ++ List.replicate (112 - b.length) 0) _ (Fl.own (S := fun b => g280 ≤ b) r394 (fun b hb => hb) (byteVals_one _))) ?_)
   rintro _ w396 ⟨rfl, hx397⟩
   refine ⟨_, rfl, ?_⟩; intro a398 F399; clear F393; have z400 := hx397.size
   refine qv 4 (.int .u64 ((crc ((((numL k 2) ++ ([(1 : UInt8), (UInt8.ofNat b.length)])) ++ b) ++ List.replicate (112 - b.length) 0)).toNat : Nat)) F399 rfl (rn_convW Try.underlying91 Try.underlying68 (F399.get rfl) (cvn_64 ((crc ((((numL k 2) ++ ([(1 : UInt8), (UInt8.ofNat b.length)])) ++ b) ++ List.replicate (112 - b.length) 0)).toNat) (by omega))) fun _ F402 => ?_; clear F399
   have r406 := (own_ext r394 hx397)
   have hf407 := r406
   refine wpl_op (i := 5) rfl (o_call F402 rfl rfl rfl rfl (rn_call (args2 (F402.get rfl) rfl) rfl (by kernel_rfl)) (numeral_any ((crc ((((numL k 2) ++ ([(1 : UInt8), (UInt8.ofNat b.length)])) ++ b) ++ List.replicate (112 - b.length) 0)).toNat) 4 _ (by omega) (by omega) (by omega)) ?_)
   rintro _ w408 ⟨g403, z404, rfl, b405, hx409⟩
   refine ⟨_, rfl, ?_⟩; intro a410 F411; clear F402; have z412 := hx409.size
   have z413 := b405.lt
   have nb414 := own_newer (g := g403) hf407 (by omega)
   have b415 := ((b383.ext hx397).ext hx409)
   have hf425 := (own_blkN (k := 1) (n := 4) (cs := byteVals (numL n 4)) b415 rfl (by omega))
   have b426 := ((((b368.grown hg363 nb369).ext hx386).ext hx397).ext hx409)
   have nb427 : some g297 ≠ (Value.slice (some ⟨g381, 0, none⟩) 4 4).ownBlock := (ne_slice (n := 4) (c := 4) (by omega : g297 ≠ g381))
   have z428 := b426.lt
   have nb429 : some g403 ≠ (Value.slice (some ⟨g381, 0, none⟩) 4 4).ownBlock := (ne_slice (n := 4) (c := 4) (by omega : g403 ≠ g381))
   have z430 := b405.lt
   have r431 := (own_ext r406 hx409)
   have hf432 := r431
   have ap433 : Apart (.slice A359 (((2 + 2) + b.length) + (112 - b.length)) c360) (.slice (some ⟨g381, 0, none⟩) 4 4) := (Apart.of_ne (n := 4) (c := 4) nb391)
   refine wpl_op (i := 6) rfl (o_appB (zs := byteVals ((numL n 4) ++ (numL ((crc ((((numL k 2) ++ ([(1 : UInt8), (UInt8.ofNat b.length)])) ++ b) ++ List.replicate (112 - b.length) 0)).toNat) 4))) El35 F411 rfl rfl rfl rfl rfl (F411.get rfl) (F411.get rfl) hf425 (Fl.cel (Fl.blk (S := fun b => b = g403) (k := 1) (n := 4) (c := 4) b405 (by rw [byteVals_len (numL_len _ _), Nat.mul_one]) (byteVals_one _) (by omega) rfl)).2.2 (by omega) (by omega) (by omega) (byteVals_app _ _) ?_)
   intro A417 c418 w419 a434 F435 r420 hg421 z422 z423 hnb424; clear F411; have z436 := hg421.size
   have nb437 := hnb424 g297 (by omega) nb427
   have nb438 := hnb424 g403 (by omega) nb429
   have ap439 := Apart.app hf432 ap433 hnb424
   have hg440 : w408.grownBy w419 (some g381) := hg421
   refine qv 7 (.slice A417 (4 + 4) c418) F435 rfl (rn_assign (F435.get rfl)) fun _ F442 => ?_; clear F435
   refine wpList_nil ?_
   refine hK378 _ _ ?_
   clear hK378
   have F443 := (((((((((((F442.nil.c F442 13 rfl).c F442 12 rfl).c F442 17 rfl).c F442 14 rfl).c F442 11 rfl).c F442 10 rfl).c F442 4 rfl).c F442 3 rfl).c F442 2 rfl).c F442 1 rfl).c F442 0 rfl)
   clear F442
   refine wp_seq_k (fun K444 hK444 => ?_)
   refine wp_region_lit ?_
   refine qv 0 (.slice A417 (4 + 4) c418) F443 rfl (rn_move (F443.get rfl)) fun _ F446 => ?_; clear F443
   refine qv 1 (.slice A359 (((2 + 2) + b.length) + (112 - b.length)) c360) F446 rfl (rn_move (F446.get rfl)) fun _ F448 => ?_; clear F446
   have r449 := (own_grownR r431 hg421 ap433)
   have hf458 := r420
   have b459 := (b426.grown hg421 nb427)
   have nb460 : some g297 ≠ (Value.slice A417 (4 + 4) c418).ownBlock := nb437
   have z461 := b459.lt
   have b462 := (b405.grown hg421 nb429)
   have nb463 : some g403 ≠ (Value.slice A417 (4 + 4) c418).ownBlock := nb438
   have z464 := b462.lt
   have hf465 := r449
   have ap466 : Apart (.slice A359 (((2 + 2) + b.length) + (112 - b.length)) c360) (.slice A417 (4 + 4) c418) := ap439
   refine wpl_op (i := 2) rfl (o_appB (zs := byteVals (((numL n 4) ++ (numL ((crc ((((numL k 2) ++ ([(1 : UInt8), (UInt8.ofNat b.length)])) ++ b) ++ List.replicate (112 - b.length) 0)).toNat) 4)) ++ ((((numL k 2) ++ ([(1 : UInt8), (UInt8.ofNat b.length)])) ++ b) ++ List.replicate (112 - b.length) 0))) El35 F448 rfl rfl rfl rfl rfl (F448.get rfl) (F448.get rfl) hf458 (Fl.cel (Fl.own (S := fun b => g280 ≤ b) r449 (fun b hb => hb) (byteVals_one _))).2.2 (by omega) (by omega) (by omega) (byteVals_app _ _) ?_)
   intro A450 c451 w452 a467 F468 r453 hg454 z455 z456 hnb457; clear F448; have z469 := hg454.size
   have nb470 := hnb457 g297 (by omega) nb460
   have nb471 := hnb457 g403 (by omega) nb463
   have ap472 := Apart.app hf465 ap466 hnb457
   refine qv 3 (.int .u64 (n : Nat)) F468 rfl (rn_move (F468.get rfl)) fun _ F474 => ?_; clear F468
   have r478 := (own_grownR r449 hg454 ap466)
   have hf479 := r478
   have hf480 := r453
   refine wpl_op (i := 4) rfl (o_call F474 rfl rfl rfl rfl (rn_call (args2 (F474.get rfl) rfl) rfl (by kernel_rfl)) (numeral_any n 4 _ (by omega) (by omega) (by omega)) ?_)
   rintro _ w481 ⟨g475, z476, rfl, b477, hx482⟩
   refine ⟨_, rfl, ?_⟩; intro a483 F484; clear F474; have z485 := hx482.size
   have z486 := b477.lt
   have nb487 := own_newer (g := g475) hf479 (by omega)
   have nb488 := own_newer (g := g475) hf480 (by omega)
   have r489 := (own_ext r453 hx482)
   have hf498 := r489
   have b499 := ((b459.grown hg454 nb460).ext hx482)
   have nb500 : some g297 ≠ (Value.slice A450 ((4 + 4) + (((2 + 2) + b.length) + (112 - b.length))) c451).ownBlock := nb470
   have z501 := b499.lt
   have b502 := ((b462.grown hg454 nb463).ext hx482)
   have nb503 : some g403 ≠ (Value.slice A450 ((4 + 4) + (((2 + 2) + b.length) + (112 - b.length))) c451).ownBlock := nb471
   have z504 := b502.lt
   have nb505 : some g475 ≠ (Value.slice A450 ((4 + 4) + (((2 + 2) + b.length) + (112 - b.length))) c451).ownBlock := nb488
   have z506 := b477.lt
   have r507 := (own_ext r478 hx482)
   have hf508 := r507
   have ap509 : Apart (.slice A359 (((2 + 2) + b.length) + (112 - b.length)) c360) (.slice A450 ((4 + 4) + (((2 + 2) + b.length) + (112 - b.length))) c451) := ap472
   refine wpl_op (i := 5) rfl (o_appB (zs := byteVals ((((numL n 4) ++ (numL ((crc ((((numL k 2) ++ ([(1 : UInt8), (UInt8.ofNat b.length)])) ++ b) ++ List.replicate (112 - b.length) 0)).toNat) 4)) ++ ((((numL k 2) ++ ([(1 : UInt8), (UInt8.ofNat b.length)])) ++ b) ++ List.replicate (112 - b.length) 0)) ++ (numL n 4))) El35 F484 rfl rfl rfl rfl rfl (F484.get rfl) (F484.get rfl) hf498 (Fl.cel (Fl.blk (S := fun b => b = g475) (k := 1) (n := 4) (c := 4) b477 (by rw [byteVals_len (numL_len _ _), Nat.mul_one]) (byteVals_one _) (by omega) rfl)).2.2 (by omega) (by omega) (by omega) (byteVals_app _ _) ?_)
   intro A490 c491 w492 a510 F511 r493 hg494 z495 z496 hnb497; clear F484; have z512 := hg494.size
   have nb513 := hnb497 g297 (by omega) nb500
   have nb514 := hnb497 g403 (by omega) nb503
   have nb515 := hnb497 g475 (by omega) nb505
   have ap516 := Apart.app hf508 ap509 hnb497
   refine qv 6 (.slice A490 (((4 + 4) + (((2 + 2) + b.length) + (112 - b.length))) + 4) c491) F511 rfl (rn_assign (F511.get rfl)) fun _ F518 => ?_; clear F511
   refine wpList_nil ?_
   refine hK444 _ _ ?_
   clear hK444
   have F519 := (((((((((((F518.nil.c F518 13 rfl).c F518 12 rfl).c F518 17 rfl).c F518 14 rfl).c F518 11 rfl).c F518 10 rfl).c F518 4 rfl).c F518 3 rfl).c F518 2 rfl).c F518 1 rfl).c F518 0 rfl)
   clear F518
   refine wp_ret ?_
   refine ret1 F519 rfl rfl ?_
   subst hc11 hc22
   have hq : (((numL n 4) ++ (numL ((crc ((((numL k 2) ++ ([(1 : UInt8), (UInt8.ofNat b.length)])) ++ b) ++ List.replicate (112 - b.length) 0)).toNat) 4)) ++ ((((numL k 2) ++ ([(1 : UInt8), (UInt8.ofNat b.length)])) ++ b) ++ List.replicate (112 - b.length) 0)) ++ (numL n 4) = encL n k (kindOf true false) b := by rw [encL, bodyL]; simp only [List.append_assoc]; rfl
   rw [hq] at r493
   have hl := (r493).1
   rw [byteVals_len (encL_len hb)] at hl
   exact sector_fin r493 (encL_len hb) (by omega) (ext_row ((ext_row (((((ext_row (ext_row ((((Ext.refl w).trans hx284).trans hx300).grownN hg322 (by omega)) hg336 hf340 (by omega)) hg363 hf367 (by omega)).trans hx386).trans hx397).trans hx409).grownN hg440 (by omega)) hg454 hf458 (by omega)).trans hx482) hg494 hf498 (by omega))
 ·skip
  refine wp_cond_false (c_false F10 rfl hc11) ?_
  refine wp_skip ?_
  refine hK7 _ _ ?_
  clear hK7
  refine wp_seq_k (fun K520 hK520 => ?_)
  refine wp_seq_k (fun K521 hK521 => ?_)
  refine wp_region_lit ?_
  refine qv 0 (.bool b2) F10 rfl (rn_move (F10.get rfl)) fun _ F523 => ?_; clear F10
  refine wpList_nil ?_
  refine hK521 _ _ ?_
  clear hK521
  rcases Bool.eq_false_or_eq_true b2 with hc524 | hc524
  ·skip
   refine wp_cond_true (c_true F523 rfl hc524) ?_
   refine wp_region_lit ?_
   refine qv 0 (.int .u8 0) F523 rfl (rn_move (F523.get rfl)) fun _ F526 => ?_; clear F523
   refine qv 1 (.int .u8 2) F526 rfl (rn_bin (v := .int .u8 2) (F526.get rfl) rfl guard_int (by kernel_rfl)) fun _ F528 => ?_; clear F526
   refine qv 2 (.int .u8 2) F528 rfl (rn_assign (F528.get rfl)) fun _ F530 => ?_; clear F528
   refine wpList_nil ?_
   refine hK520 _ _ ?_
   clear hK520
   refine wp_seq_k (fun K531 hK531 => ?_)
   refine wp_region_lit ?_
   refine qv 0 (.int .i64 (k : Nat)) F530 rfl (rn_move (F530.get rfl)) fun _ F533 => ?_; clear F530
   refine qv 1 (.int .u64 (k : Nat)) F533 rfl (rn_convW Try.underlying3 Try.underlying68 (F533.get rfl) (cvn_64 k (by omega))) fun _ F535 => ?_; clear F533
   refine wpl_op (i := 2) rfl (o_call F535 rfl rfl rfl rfl (rn_call (args2 (F535.get rfl) rfl) rfl (by kernel_rfl)) (numeral_any k 2 _ (by omega) (by omega) (by omega)) ?_)
   rintro _ w539 ⟨g536, z537, rfl, b538, hx540⟩
   refine ⟨_, rfl, ?_⟩; intro a541 F542; clear F535; have z543 := hx540.size
   have z544 := b538.lt
   refine qv 3 (.int .u8 2) F542 rfl (rn_move (F542.get rfl)) fun _ F546 => ?_; clear F542
   refine qv 4 (.slice A b.length c) F546 rfl (rn_move (F546.get rfl)) fun _ F548 => ?_; clear F546
   refine qv 5 (.int .i64 (b.length : Nat)) F548 rfl (rn_len_slice Try.underlying35 (F548.get rfl)) fun _ F550 => ?_; clear F548
   refine qv 6 (.int .u8 ((UInt8.ofNat b.length).toNat : Nat)) F550 rfl (rn_convW Try.underlying3 Try.underlying5 (F550.get rfl) (cvi_8 b.length)) fun _ F552 => ?_; clear F550
   refine wpl_op (i := 7) rfl (o_new (fun g => (.slice (some ⟨g, 0, none⟩) 2 2)) [(.int .u8 2), (.int .u8 ((UInt8.ofNat b.length).toNat : Nat))] 5 F552 rfl rfl rfl rfl (rn_buildSlice (parts2 (F552.get rfl) (F552.get rfl)) (by kernel_rfl)) ?_)
   intro g553 w554 a559 F560 z557 z558 b555 hx556; clear F552
   have b561 := (b538.ext hx556)
   have hf571 := (own_blkN (k := 1) (n := 2) (cs := byteVals (numL k 2)) b561 rfl (by omega))
   have nb572 : some g553 ≠ (Value.slice (some ⟨g536, 0, none⟩) 2 2).ownBlock := (ne_slice (n := 2) (c := 2) (by omega : g553 ≠ g536))
   have z573 := b555.lt
   refine wpl_op (i := 8) rfl (o_appB (zs := byteVals ((numL k 2) ++ ([(2 : UInt8), (UInt8.ofNat b.length)]))) El35 F560 rfl rfl rfl rfl rfl (F560.get rfl) (F560.get rfl) hf571 (Fl.cel (Fl.blk (S := fun b => b = g553) (k := 1) (n := 2) (c := 2) (cs := byteVals [(2 : UInt8), (UInt8.ofNat b.length)]) b555 rfl (byteVals_one _) (by omega) rfl)).2.2 (by omega) (by omega) (by omega) (byteVals_app _ _) ?_)
   intro A563 c564 w565 a574 F575 r566 hg567 z568 z569 hnb570; clear F560; have z576 := hg567.size
   have nb577 := hnb570 g553 (by omega) nb572
   have hg578 : w554.grownBy w565 (some g536) := hg567
   refine qv 9 (.slice A563 (2 + 2) c564) F575 rfl (rn_assign (F575.get rfl)) fun _ F580 => ?_; clear F575
   refine wpList_nil ?_
   refine hK531 _ _ ?_
   clear hK531
   have F581 := ((((((((((F580.nil.c F580 12 rfl).c F580 17 rfl).c F580 14 rfl).c F580 11 rfl).c F580 10 rfl).c F580 4 rfl).c F580 3 rfl).c F580 2 rfl).c F580 1 rfl).c F580 0 rfl)
   clear F580
   refine wp_seq_k (fun K582 hK582 => ?_)
   refine wp_region_lit ?_
   refine qv 0 (.slice A563 (2 + 2) c564) F581 rfl (rn_move (F581.get rfl)) fun _ F584 => ?_; clear F581
   refine qv 1 (.slice A b.length c) F584 rfl (rn_move (F584.get rfl)) fun _ F586 => ?_; clear F584
   have d587 := (hc.pres ((((Pres.refl w).ext hx540).ext hx556).grownN hg578 (fun h => by simp only [Clip] at h; omega)))
   have hf596 := r566
   have b597 := (b555.grown hg567 nb572)
   have nb598 : some g553 ≠ (Value.slice A563 (2 + 2) c564).ownBlock := nb577
   have z599 := b597.lt
   refine wpl_op (i := 2) rfl (o_appB (zs := byteVals (((numL k 2) ++ ([(2 : UInt8), (UInt8.ofNat b.length)])) ++ b)) El35 F586 rfl rfl rfl rfl rfl (F586.get rfl) (F586.get rfl) hf596 (Fl.cel d587).2.2 (by omega) (by omega) (by omega) (byteVals_app _ _) ?_)
   intro A588 c589 w590 a600 F601 r591 hg592 z593 z594 hnb595; clear F586; have z602 := hg592.size
   have nb603 := hnb595 g553 (by omega) nb598
   refine qv 3 (.slice A588 ((2 + 2) + b.length) c589) F601 rfl (rn_assign (F601.get rfl)) fun _ F605 => ?_; clear F601
   refine wpList_nil ?_
   refine hK582 _ _ ?_
   clear hK582
   refine wp_seq_k (fun K606 hK606 => ?_)
   refine wp_region_lit ?_
   refine qv 0 (.slice A588 ((2 + 2) + b.length) c589) F605 rfl (rn_move (F605.get rfl)) fun _ F608 => ?_; clear F605
   refine qv 1 (.slice A b.length c) F608 rfl (rn_move (F608.get rfl)) fun _ F610 => ?_; clear F608
   refine qv 2 (.int .i64 (b.length : Nat)) F610 rfl (rn_len_slice Try.underlying35 (F610.get rfl)) fun _ F612 => ?_; clear F610
   refine qv 3 (.int .i64 (112 - b.length : Nat)) F612 rfl (rn_subN (a := 112) (b := b.length) rfl (F612.get rfl) (by omega) (by omega)) fun _ F614 => ?_; clear F612
   have hf623 := r591
   have b624 := (b597.grown hg592 nb598)
   have nb625 : some g553 ≠ (Value.slice A588 ((2 + 2) + b.length) c589).ownBlock := nb603
   have z626 := b624.lt
   refine wpl_op (i := 4) rfl (o_appZ (zs := byteVals ((((numL k 2) ++ ([(2 : UInt8), (UInt8.ofNat b.length)])) ++ b) ++ List.replicate (112 - b.length) 0)) El35 Try.underlying3 F614 rfl rfl rfl rfl rfl (F614.get rfl) (F614.get rfl) hf623 (by omega) (by omega) (byteVals_app _ _) ?_)
   intro A615 c616 w617 a627 F628 r618 hg619 z620 z621 hnb622; clear F614; have z629 := hg619.size
   have nb630 := hnb622 g553 (by omega) nb625
   refine qv 5 (.slice A615 (((2 + 2) + b.length) + (112 - b.length)) c616) F628 rfl (rn_assign (F628.get rfl)) fun _ F632 => ?_; clear F628
   refine wpList_nil ?_
   refine hK606 _ _ ?_
   clear hK606
   have F633 := ((((((((((F632.nil.c F632 12 rfl).c F632 17 rfl).c F632 14 rfl).c F632 11 rfl).c F632 10 rfl).c F632 4 rfl).c F632 3 rfl).c F632 2 rfl).c F632 1 rfl).c F632 0 rfl)
   clear F632
   refine wp_seq_k (fun K634 hK634 => ?_)
   refine wp_region_lit ?_
   refine qv 0 (.int .u64 (n : Nat)) F633 rfl (rn_move (F633.get rfl)) fun _ F636 => ?_; clear F633
   have hf640 := r618
   refine wpl_op (i := 1) rfl (o_call F636 rfl rfl rfl rfl (rn_call (args2 (F636.get rfl) rfl) rfl (by kernel_rfl)) (numeral_any n 4 _ (by omega) (by omega) (by omega)) ?_)
   rintro _ w641 ⟨g637, z638, rfl, b639, hx642⟩
   refine ⟨_, rfl, ?_⟩; intro a643 F644; clear F636; have z645 := hx642.size
   have z646 := b639.lt
   have nb647 := own_newer (g := g637) hf640 (by omega)
   refine qv 2 (.slice A615 (((2 + 2) + b.length) + (112 - b.length)) c616) F644 rfl (rn_move (F644.get rfl)) fun _ F649 => ?_; clear F644
   have r650 := (own_ext r618 hx642)
   have z651 := UInt32.toNat_lt (crc ((((numL k 2) ++ ([(2 : UInt8), (UInt8.ofNat b.length)])) ++ b) ++ List.replicate (112 - b.length) 0))
   refine wpl_op (i := 3) rfl (o_call F649 rfl rfl rfl rfl (rn_call (args1 (F649.get rfl)) rfl (by kernel_rfl)) (checksum_at (v := (.slice A615 (((2 + 2) + b.length) + (112 - b.length)) c616)) (m := ((2 + 2) + b.length) + (112 - b.length)) ((((numL k 2) ++ ([(2 : UInt8), (UInt8.ofNat b.length)])) ++ b) ++ List.replicate (112 - b.length) 0) _ (Fl.own (S := fun b => g536 ≤ b) r650 (fun b hb => hb) (byteVals_one _))) ?_)
   rintro _ w652 ⟨rfl, hx653⟩
   refine ⟨_, rfl, ?_⟩; intro a654 F655; clear F649; have z656 := hx653.size
   refine qv 4 (.int .u64 ((crc ((((numL k 2) ++ ([(2 : UInt8), (UInt8.ofNat b.length)])) ++ b) ++ List.replicate (112 - b.length) 0)).toNat : Nat)) F655 rfl (rn_convW Try.underlying91 Try.underlying68 (F655.get rfl) (cvn_64 ((crc ((((numL k 2) ++ ([(2 : UInt8), (UInt8.ofNat b.length)])) ++ b) ++ List.replicate (112 - b.length) 0)).toNat) (by omega))) fun _ F658 => ?_; clear F655
   have r662 := (own_ext r650 hx653)
   have hf663 := r662
   refine wpl_op (i := 5) rfl (o_call F658 rfl rfl rfl rfl (rn_call (args2 (F658.get rfl) rfl) rfl (by kernel_rfl)) (numeral_any ((crc ((((numL k 2) ++ ([(2 : UInt8), (UInt8.ofNat b.length)])) ++ b) ++ List.replicate (112 - b.length) 0)).toNat) 4 _ (by omega) (by omega) (by omega)) ?_)
   rintro _ w664 ⟨g659, z660, rfl, b661, hx665⟩
   refine ⟨_, rfl, ?_⟩; intro a666 F667; clear F658; have z668 := hx665.size
   have z669 := b661.lt
   have nb670 := own_newer (g := g659) hf663 (by omega)
   have b671 := ((b639.ext hx653).ext hx665)
   have hf681 := (own_blkN (k := 1) (n := 4) (cs := byteVals (numL n 4)) b671 rfl (by omega))
   have b682 := ((((b624.grown hg619 nb625).ext hx642).ext hx653).ext hx665)
   have nb683 : some g553 ≠ (Value.slice (some ⟨g637, 0, none⟩) 4 4).ownBlock := (ne_slice (n := 4) (c := 4) (by omega : g553 ≠ g637))
   have z684 := b682.lt
   have nb685 : some g659 ≠ (Value.slice (some ⟨g637, 0, none⟩) 4 4).ownBlock := (ne_slice (n := 4) (c := 4) (by omega : g659 ≠ g637))
   have z686 := b661.lt
   have r687 := (own_ext r662 hx665)
   have hf688 := r687
   have ap689 : Apart (.slice A615 (((2 + 2) + b.length) + (112 - b.length)) c616) (.slice (some ⟨g637, 0, none⟩) 4 4) := (Apart.of_ne (n := 4) (c := 4) nb647)
   refine wpl_op (i := 6) rfl (o_appB (zs := byteVals ((numL n 4) ++ (numL ((crc ((((numL k 2) ++ ([(2 : UInt8), (UInt8.ofNat b.length)])) ++ b) ++ List.replicate (112 - b.length) 0)).toNat) 4))) El35 F667 rfl rfl rfl rfl rfl (F667.get rfl) (F667.get rfl) hf681 (Fl.cel (Fl.blk (S := fun b => b = g659) (k := 1) (n := 4) (c := 4) b661 (by rw [byteVals_len (numL_len _ _), Nat.mul_one]) (byteVals_one _) (by omega) rfl)).2.2 (by omega) (by omega) (by omega) (byteVals_app _ _) ?_)
   intro A673 c674 w675 a690 F691 r676 hg677 z678 z679 hnb680; clear F667; have z692 := hg677.size
   have nb693 := hnb680 g553 (by omega) nb683
   have nb694 := hnb680 g659 (by omega) nb685
   have ap695 := Apart.app hf688 ap689 hnb680
   have hg696 : w664.grownBy w675 (some g637) := hg677
   refine qv 7 (.slice A673 (4 + 4) c674) F691 rfl (rn_assign (F691.get rfl)) fun _ F698 => ?_; clear F691
   refine wpList_nil ?_
   refine hK634 _ _ ?_
   clear hK634
   have F699 := (((((((((((F698.nil.c F698 13 rfl).c F698 12 rfl).c F698 17 rfl).c F698 14 rfl).c F698 11 rfl).c F698 10 rfl).c F698 4 rfl).c F698 3 rfl).c F698 2 rfl).c F698 1 rfl).c F698 0 rfl)
   clear F698
   refine wp_seq_k (fun K700 hK700 => ?_)
   refine wp_region_lit ?_
   refine qv 0 (.slice A673 (4 + 4) c674) F699 rfl (rn_move (F699.get rfl)) fun _ F702 => ?_; clear F699
   refine qv 1 (.slice A615 (((2 + 2) + b.length) + (112 - b.length)) c616) F702 rfl (rn_move (F702.get rfl)) fun _ F704 => ?_; clear F702
   have r705 := (own_grownR r687 hg677 ap689)
   have hf714 := r676
   have b715 := (b682.grown hg677 nb683)
   have nb716 : some g553 ≠ (Value.slice A673 (4 + 4) c674).ownBlock := nb693
   have z717 := b715.lt
   have b718 := (b661.grown hg677 nb685)
   have nb719 : some g659 ≠ (Value.slice A673 (4 + 4) c674).ownBlock := nb694
   have z720 := b718.lt
   have hf721 := r705
   have ap722 : Apart (.slice A615 (((2 + 2) + b.length) + (112 - b.length)) c616) (.slice A673 (4 + 4) c674) := ap695
   refine wpl_op (i := 2) rfl (o_appB (zs := byteVals (((numL n 4) ++ (numL ((crc ((((numL k 2) ++ ([(2 : UInt8), (UInt8.ofNat b.length)])) ++ b) ++ List.replicate (112 - b.length) 0)).toNat) 4)) ++ ((((numL k 2) ++ ([(2 : UInt8), (UInt8.ofNat b.length)])) ++ b) ++ List.replicate (112 - b.length) 0))) El35 F704 rfl rfl rfl rfl rfl (F704.get rfl) (F704.get rfl) hf714 (Fl.cel (Fl.own (S := fun b => g536 ≤ b) r705 (fun b hb => hb) (byteVals_one _))).2.2 (by omega) (by omega) (by omega) (byteVals_app _ _) ?_)
   intro A706 c707 w708 a723 F724 r709 hg710 z711 z712 hnb713; clear F704; have z725 := hg710.size
   have nb726 := hnb713 g553 (by omega) nb716
   have nb727 := hnb713 g659 (by omega) nb719
   have ap728 := Apart.app hf721 ap722 hnb713
   refine qv 3 (.int .u64 (n : Nat)) F724 rfl (rn_move (F724.get rfl)) fun _ F730 => ?_; clear F724
   have r734 := (own_grownR r705 hg710 ap722)
   have hf735 := r734
   have hf736 := r709
   refine wpl_op (i := 4) rfl (o_call F730 rfl rfl rfl rfl (rn_call (args2 (F730.get rfl) rfl) rfl (by kernel_rfl)) (numeral_any n 4 _ (by omega) (by omega) (by omega)) ?_)
   rintro _ w737 ⟨g731, z732, rfl, b733, hx738⟩
   refine ⟨_, rfl, ?_⟩; intro a739 F740; clear F730; have z741 := hx738.size
   have z742 := b733.lt
   have nb743 := own_newer (g := g731) hf735 (by omega)
   have nb744 := own_newer (g := g731) hf736 (by omega)
   have r745 := (own_ext r709 hx738)
   have hf754 := r745
   have b755 := ((b715.grown hg710 nb716).ext hx738)
   have nb756 : some g553 ≠ (Value.slice A706 ((4 + 4) + (((2 + 2) + b.length) + (112 - b.length))) c707).ownBlock := nb726
   have z757 := b755.lt
   have b758 := ((b718.grown hg710 nb719).ext hx738)
   have nb759 : some g659 ≠ (Value.slice A706 ((4 + 4) + (((2 + 2) + b.length) + (112 - b.length))) c707).ownBlock := nb727
   have z760 := b758.lt
   have nb761 : some g731 ≠ (Value.slice A706 ((4 + 4) + (((2 + 2) + b.length) + (112 - b.length))) c707).ownBlock := nb744
   have z762 := b733.lt
   have r763 := (own_ext r734 hx738)
   have hf764 := r763
   have ap765 : Apart (.slice A615 (((2 + 2) + b.length) + (112 - b.length)) c616) (.slice A706 ((4 + 4) + (((2 + 2) + b.length) + (112 - b.length))) c707) := ap728
   refine wpl_op (i := 5) rfl (o_appB (zs := byteVals ((((numL n 4) ++ (numL ((crc ((((numL k 2) ++ ([(2 : UInt8), (UInt8.ofNat b.length)])) ++ b) ++ List.replicate (112 - b.length) 0)).toNat) 4)) ++ ((((numL k 2) ++ ([(2 : UInt8), (UInt8.ofNat b.length)])) ++ b) ++ List.replicate (112 - b.length) 0)) ++ (numL n 4))) El35 F740 rfl rfl rfl rfl rfl (F740.get rfl) (F740.get rfl) hf754 (Fl.cel (Fl.blk (S := fun b => b = g731) (k := 1) (n := 4) (c := 4) b733 (by rw [byteVals_len (numL_len _ _), Nat.mul_one]) (byteVals_one _) (by omega) rfl)).2.2 (by omega) (by omega) (by omega) (byteVals_app _ _) ?_)
   intro A746 c747 w748 a766 F767 r749 hg750 z751 z752 hnb753; clear F740; have z768 := hg750.size
   have nb769 := hnb753 g553 (by omega) nb756
   have nb770 := hnb753 g659 (by omega) nb759
   have nb771 := hnb753 g731 (by omega) nb761
   have ap772 := Apart.app hf764 ap765 hnb753
   refine qv 6 (.slice A746 (((4 + 4) + (((2 + 2) + b.length) + (112 - b.length))) + 4) c747) F767 rfl (rn_assign (F767.get rfl)) fun _ F774 => ?_; clear F767
   refine wpList_nil ?_
   refine hK700 _ _ ?_
   clear hK700
   have F775 := (((((((((((F774.nil.c F774 13 rfl).c F774 12 rfl).c F774 17 rfl).c F774 14 rfl).c F774 11 rfl).c F774 10 rfl).c F774 4 rfl).c F774 3 rfl).c F774 2 rfl).c F774 1 rfl).c F774 0 rfl)
   clear F774
   refine wp_ret ?_
   refine ret1 F775 rfl rfl ?_
   subst hc11 hc524
   have hq : (((numL n 4) ++ (numL ((crc ((((numL k 2) ++ ([(2 : UInt8), (UInt8.ofNat b.length)])) ++ b) ++ List.replicate (112 - b.length) 0)).toNat) 4)) ++ ((((numL k 2) ++ ([(2 : UInt8), (UInt8.ofNat b.length)])) ++ b) ++ List.replicate (112 - b.length) 0)) ++ (numL n 4) = encL n k (kindOf false true) b := by rw [encL, bodyL]; simp only [List.append_assoc]; rfl
   rw [hq] at r749
   have hl := (r749).1
   rw [byteVals_len (encL_len hb)] at hl
   exact sector_fin r749 (encL_len hb) (by omega) (ext_row ((ext_row (((((ext_row (ext_row ((((Ext.refl w).trans hx540).trans hx556).grownN hg578 (by omega)) hg592 hf596 (by omega)) hg619 hf623 (by omega)).trans hx642).trans hx653).trans hx665).grownN hg696 (by omega)) hg710 hf714 (by omega)).trans hx738) hg750 hf754 (by omega))
  ·skip
   refine wp_cond_false (c_false F523 rfl hc524) ?_
   refine wp_skip ?_
   refine hK520 _ _ ?_
   clear hK520
   refine wp_seq_k (fun K776 hK776 => ?_)
   refine wp_region_lit ?_
   refine qv 0 (.int .i64 (k : Nat)) F523 rfl (rn_move (F523.get rfl)) fun _ F778 => ?_; clear F523
   refine qv 1 (.int .u64 (k : Nat)) F778 rfl (rn_convW Try.underlying3 Try.underlying68 (F778.get rfl) (cvn_64 k (by omega))) fun _ F780 => ?_; clear F778
   refine wpl_op (i := 2) rfl (o_call F780 rfl rfl rfl rfl (rn_call (args2 (F780.get rfl) rfl) rfl (by kernel_rfl)) (numeral_any k 2 _ (by omega) (by omega) (by omega)) ?_)
   rintro _ w784 ⟨g781, z782, rfl, b783, hx785⟩
   refine ⟨_, rfl, ?_⟩; intro a786 F787; clear F780; have z788 := hx785.size
   have z789 := b783.lt
   refine qv 3 (.int .u8 0) F787 rfl (rn_move (F787.get rfl)) fun _ F791 => ?_; clear F787
   refine qv 4 (.slice A b.length c) F791 rfl (rn_move (F791.get rfl)) fun _ F793 => ?_; clear F791
   refine qv 5 (.int .i64 (b.length : Nat)) F793 rfl (rn_len_slice Try.underlying35 (F793.get rfl)) fun _ F795 => ?_; clear F793
   refine qv 6 (.int .u8 ((UInt8.ofNat b.length).toNat : Nat)) F795 rfl (rn_convW Try.underlying3 Try.underlying5 (F795.get rfl) (cvi_8 b.length)) fun _ F797 => ?_; clear F795
   refine wpl_op (i := 7) rfl (o_new (fun g => (.slice (some ⟨g, 0, none⟩) 2 2)) [(.int .u8 0), (.int .u8 ((UInt8.ofNat b.length).toNat : Nat))] 5 F797 rfl rfl rfl rfl (rn_buildSlice (parts2 (F797.get rfl) (F797.get rfl)) (by kernel_rfl)) ?_)
   intro g798 w799 a804 F805 z802 z803 b800 hx801; clear F797
   have b806 := (b783.ext hx801)
   have hf816 := (own_blkN (k := 1) (n := 2) (cs := byteVals (numL k 2)) b806 rfl (by omega))
   have nb817 : some g798 ≠ (Value.slice (some ⟨g781, 0, none⟩) 2 2).ownBlock := (ne_slice (n := 2) (c := 2) (by omega : g798 ≠ g781))
   have z818 := b800.lt
   refine wpl_op (i := 8) rfl (o_appB (zs := byteVals ((numL k 2) ++ ([(0 : UInt8), (UInt8.ofNat b.length)]))) El35 F805 rfl rfl rfl rfl rfl (F805.get rfl) (F805.get rfl) hf816 (Fl.cel (Fl.blk (S := fun b => b = g798) (k := 1) (n := 2) (c := 2) (cs := byteVals [(0 : UInt8), (UInt8.ofNat b.length)]) b800 rfl (byteVals_one _) (by omega) rfl)).2.2 (by omega) (by omega) (by omega) (byteVals_app _ _) ?_)
   intro A808 c809 w810 a819 F820 r811 hg812 z813 z814 hnb815; clear F805; have z821 := hg812.size
   have nb822 := hnb815 g798 (by omega) nb817
   have hg823 : w799.grownBy w810 (some g781) := hg812
   refine qv 9 (.slice A808 (2 + 2) c809) F820 rfl (rn_assign (F820.get rfl)) fun _ F825 => ?_; clear F820
   refine wpList_nil ?_
   refine hK776 _ _ ?_
   clear hK776
   have F826 := ((((((((((F825.nil.c F825 12 rfl).c F825 17 rfl).c F825 14 rfl).c F825 11 rfl).c F825 10 rfl).c F825 4 rfl).c F825 3 rfl).c F825 2 rfl).c F825 1 rfl).c F825 0 rfl)
   clear F825
   refine wp_seq_k (fun K827 hK827 => ?_)
   refine wp_region_lit ?_
   refine qv 0 (.slice A808 (2 + 2) c809) F826 rfl (rn_move (F826.get rfl)) fun _ F829 => ?_; clear F826
   refine qv 1 (.slice A b.length c) F829 rfl (rn_move (F829.get rfl)) fun _ F831 => ?_; clear F829
   have d832 := (hc.pres ((((Pres.refl w).ext hx785).ext hx801).grownN hg823 (fun h => by simp only [Clip] at h; omega)))
   have hf841 := r811
   have b842 := (b800.grown hg812 nb817)
   have nb843 : some g798 ≠ (Value.slice A808 (2 + 2) c809).ownBlock := nb822
   have z844 := b842.lt
   refine wpl_op (i := 2) rfl (o_appB (zs := byteVals (((numL k 2) ++ ([(0 : UInt8), (UInt8.ofNat b.length)])) ++ b)) El35 F831 rfl rfl rfl rfl rfl (F831.get rfl) (F831.get rfl) hf841 (Fl.cel d832).2.2 (by omega) (by omega) (by omega) (byteVals_app _ _) ?_)
   intro A833 c834 w835 a845 F846 r836 hg837 z838 z839 hnb840; clear F831; have z847 := hg837.size
   have nb848 := hnb840 g798 (by omega) nb843
   refine qv 3 (.slice A833 ((2 + 2) + b.length) c834) F846 rfl (rn_assign (F846.get rfl)) fun _ F850 => ?_; clear F846
   refine wpList_nil ?_
   refine hK827 _ _ ?_
   clear hK827
   refine wp_seq_k (fun K851 hK851 => ?_)
   refine wp_region_lit ?_
   refine qv 0 (.slice A833 ((2 + 2) + b.length) c834) F850 rfl (rn_move (F850.get rfl)) fun _ F853 => ?_; clear F850
   refine qv 1 (.slice A b.length c) F853 rfl (rn_move (F853.get rfl)) fun _ F855 => ?_; clear F853
   refine qv 2 (.int .i64 (b.length : Nat)) F855 rfl (rn_len_slice Try.underlying35 (F855.get rfl)) fun _ F857 => ?_; clear F855
   refine qv 3 (.int .i64 (112 - b.length : Nat)) F857 rfl (rn_subN (a := 112) (b := b.length) rfl (F857.get rfl) (by omega) (by omega)) fun _ F859 => ?_; clear F857
   have hf868 := r836
   have b869 := (b842.grown hg837 nb843)
   have nb870 : some g798 ≠ (Value.slice A833 ((2 + 2) + b.length) c834).ownBlock := nb848
   have z871 := b869.lt
   refine wpl_op (i := 4) rfl (o_appZ (zs := byteVals ((((numL k 2) ++ ([(0 : UInt8), (UInt8.ofNat b.length)])) ++ b) ++ List.replicate (112 - b.length) 0)) El35 Try.underlying3 F859 rfl rfl rfl rfl rfl (F859.get rfl) (F859.get rfl) hf868 (by omega) (by omega) (byteVals_app _ _) ?_)
   intro A860 c861 w862 a872 F873 r863 hg864 z865 z866 hnb867; clear F859; have z874 := hg864.size
   have nb875 := hnb867 g798 (by omega) nb870
   refine qv 5 (.slice A860 (((2 + 2) + b.length) + (112 - b.length)) c861) F873 rfl (rn_assign (F873.get rfl)) fun _ F877 => ?_; clear F873
   refine wpList_nil ?_
   refine hK851 _ _ ?_
   clear hK851
   have F878 := ((((((((((F877.nil.c F877 12 rfl).c F877 17 rfl).c F877 14 rfl).c F877 11 rfl).c F877 10 rfl).c F877 4 rfl).c F877 3 rfl).c F877 2 rfl).c F877 1 rfl).c F877 0 rfl)
   clear F877
   refine wp_seq_k (fun K879 hK879 => ?_)
   refine wp_region_lit ?_
   refine qv 0 (.int .u64 (n : Nat)) F878 rfl (rn_move (F878.get rfl)) fun _ F881 => ?_; clear F878
   have hf885 := r863
   refine wpl_op (i := 1) rfl (o_call F881 rfl rfl rfl rfl (rn_call (args2 (F881.get rfl) rfl) rfl (by kernel_rfl)) (numeral_any n 4 _ (by omega) (by omega) (by omega)) ?_)
   rintro _ w886 ⟨g882, z883, rfl, b884, hx887⟩
   refine ⟨_, rfl, ?_⟩; intro a888 F889; clear F881; have z890 := hx887.size
   have z891 := b884.lt
   have nb892 := own_newer (g := g882) hf885 (by omega)
   refine qv 2 (.slice A860 (((2 + 2) + b.length) + (112 - b.length)) c861) F889 rfl (rn_move (F889.get rfl)) fun _ F894 => ?_; clear F889
   have r895 := (own_ext r863 hx887)
   have z896 := UInt32.toNat_lt (crc ((((numL k 2) ++ ([(0 : UInt8), (UInt8.ofNat b.length)])) ++ b) ++ List.replicate (112 - b.length) 0))
   refine wpl_op (i := 3) rfl (o_call F894 rfl rfl rfl rfl (rn_call (args1 (F894.get rfl)) rfl (by kernel_rfl)) (checksum_at (v := (.slice A860 (((2 + 2) + b.length) + (112 - b.length)) c861)) (m := ((2 + 2) + b.length) + (112 - b.length)) ((((numL k 2) ++ ([(0 : UInt8), (UInt8.ofNat b.length)])) ++ b) ++ List.replicate (112 - b.length) 0) _ (Fl.own (S := fun b => g781 ≤ b) r895 (fun b hb => hb) (byteVals_one _))) ?_)
   rintro _ w897 ⟨rfl, hx898⟩
   refine ⟨_, rfl, ?_⟩; intro a899 F900; clear F894; have z901 := hx898.size
   refine qv 4 (.int .u64 ((crc ((((numL k 2) ++ ([(0 : UInt8), (UInt8.ofNat b.length)])) ++ b) ++ List.replicate (112 - b.length) 0)).toNat : Nat)) F900 rfl (rn_convW Try.underlying91 Try.underlying68 (F900.get rfl) (cvn_64 ((crc ((((numL k 2) ++ ([(0 : UInt8), (UInt8.ofNat b.length)])) ++ b) ++ List.replicate (112 - b.length) 0)).toNat) (by omega))) fun _ F903 => ?_; clear F900
   have r907 := (own_ext r895 hx898)
   have hf908 := r907
   refine wpl_op (i := 5) rfl (o_call F903 rfl rfl rfl rfl (rn_call (args2 (F903.get rfl) rfl) rfl (by kernel_rfl)) (numeral_any ((crc ((((numL k 2) ++ ([(0 : UInt8), (UInt8.ofNat b.length)])) ++ b) ++ List.replicate (112 - b.length) 0)).toNat) 4 _ (by omega) (by omega) (by omega)) ?_)
   rintro _ w909 ⟨g904, z905, rfl, b906, hx910⟩
   refine ⟨_, rfl, ?_⟩; intro a911 F912; clear F903; have z913 := hx910.size
   have z914 := b906.lt
   have nb915 := own_newer (g := g904) hf908 (by omega)
   have b916 := ((b884.ext hx898).ext hx910)
   have hf926 := (own_blkN (k := 1) (n := 4) (cs := byteVals (numL n 4)) b916 rfl (by omega))
   have b927 := ((((b869.grown hg864 nb870).ext hx887).ext hx898).ext hx910)
   have nb928 : some g798 ≠ (Value.slice (some ⟨g882, 0, none⟩) 4 4).ownBlock := (ne_slice (n := 4) (c := 4) (by omega : g798 ≠ g882))
   have z929 := b927.lt
   have nb930 : some g904 ≠ (Value.slice (some ⟨g882, 0, none⟩) 4 4).ownBlock := (ne_slice (n := 4) (c := 4) (by omega : g904 ≠ g882))
   have z931 := b906.lt
   have r932 := (own_ext r907 hx910)
   have hf933 := r932
   have ap934 : Apart (.slice A860 (((2 + 2) + b.length) + (112 - b.length)) c861) (.slice (some ⟨g882, 0, none⟩) 4 4) := (Apart.of_ne (n := 4) (c := 4) nb892)
   refine wpl_op (i := 6) rfl (o_appB (zs := byteVals ((numL n 4) ++ (numL ((crc ((((numL k 2) ++ ([(0 : UInt8), (UInt8.ofNat b.length)])) ++ b) ++ List.replicate (112 - b.length) 0)).toNat) 4))) El35 F912 rfl rfl rfl rfl rfl (F912.get rfl) (F912.get rfl) hf926 (Fl.cel (Fl.blk (S := fun b => b = g904) (k := 1) (n := 4) (c := 4) b906 (by rw [byteVals_len (numL_len _ _), Nat.mul_one]) (byteVals_one _) (by omega) rfl)).2.2 (by omega) (by omega) (by omega) (byteVals_app _ _) ?_)
   intro A918 c919 w920 a935 F936 r921 hg922 z923 z924 hnb925; clear F912; have z937 := hg922.size
   have nb938 := hnb925 g798 (by omega) nb928
   have nb939 := hnb925 g904 (by omega) nb930
   have ap940 := Apart.app hf933 ap934 hnb925
   have hg941 : w909.grownBy w920 (some g882) := hg922
   refine qv 7 (.slice A918 (4 + 4) c919) F936 rfl (rn_assign (F936.get rfl)) fun _ F943 => ?_; clear F936
   refine wpList_nil ?_
   refine hK879 _ _ ?_
   clear hK879
   have F944 := (((((((((((F943.nil.c F943 13 rfl).c F943 12 rfl).c F943 17 rfl).c F943 14 rfl).c F943 11 rfl).c F943 10 rfl).c F943 4 rfl).c F943 3 rfl).c F943 2 rfl).c F943 1 rfl).c F943 0 rfl)
   clear F943
   refine wp_seq_k (fun K945 hK945 => ?_)
   refine wp_region_lit ?_
   refine qv 0 (.slice A918 (4 + 4) c919) F944 rfl (rn_move (F944.get rfl)) fun _ F947 => ?_; clear F944
   refine qv 1 (.slice A860 (((2 + 2) + b.length) + (112 - b.length)) c861) F947 rfl (rn_move (F947.get rfl)) fun _ F949 => ?_; clear F947
   have r950 := (own_grownR r932 hg922 ap934)
   have hf959 := r921
   have b960 := (b927.grown hg922 nb928)
   have nb961 : some g798 ≠ (Value.slice A918 (4 + 4) c919).ownBlock := nb938
   have z962 := b960.lt
   have b963 := (b906.grown hg922 nb930)
   have nb964 : some g904 ≠ (Value.slice A918 (4 + 4) c919).ownBlock := nb939
   have z965 := b963.lt
   have hf966 := r950
   have ap967 : Apart (.slice A860 (((2 + 2) + b.length) + (112 - b.length)) c861) (.slice A918 (4 + 4) c919) := ap940
   refine wpl_op (i := 2) rfl (o_appB (zs := byteVals (((numL n 4) ++ (numL ((crc ((((numL k 2) ++ ([(0 : UInt8), (UInt8.ofNat b.length)])) ++ b) ++ List.replicate (112 - b.length) 0)).toNat) 4)) ++ ((((numL k 2) ++ ([(0 : UInt8), (UInt8.ofNat b.length)])) ++ b) ++ List.replicate (112 - b.length) 0))) El35 F949 rfl rfl rfl rfl rfl (F949.get rfl) (F949.get rfl) hf959 (Fl.cel (Fl.own (S := fun b => g781 ≤ b) r950 (fun b hb => hb) (byteVals_one _))).2.2 (by omega) (by omega) (by omega) (byteVals_app _ _) ?_)
   intro A951 c952 w953 a968 F969 r954 hg955 z956 z957 hnb958; clear F949; have z970 := hg955.size
   have nb971 := hnb958 g798 (by omega) nb961
   have nb972 := hnb958 g904 (by omega) nb964
   have ap973 := Apart.app hf966 ap967 hnb958
   refine qv 3 (.int .u64 (n : Nat)) F969 rfl (rn_move (F969.get rfl)) fun _ F975 => ?_; clear F969
   have r979 := (own_grownR r950 hg955 ap967)
   have hf980 := r979
   have hf981 := r954
   refine wpl_op (i := 4) rfl (o_call F975 rfl rfl rfl rfl (rn_call (args2 (F975.get rfl) rfl) rfl (by kernel_rfl)) (numeral_any n 4 _ (by omega) (by omega) (by omega)) ?_)
   rintro _ w982 ⟨g976, z977, rfl, b978, hx983⟩
   refine ⟨_, rfl, ?_⟩; intro a984 F985; clear F975; have z986 := hx983.size
   have z987 := b978.lt
   have nb988 := own_newer (g := g976) hf980 (by omega)
   have nb989 := own_newer (g := g976) hf981 (by omega)
   have r990 := (own_ext r954 hx983)
   have hf999 := r990
   have b1000 := ((b960.grown hg955 nb961).ext hx983)
   have nb1001 : some g798 ≠ (Value.slice A951 ((4 + 4) + (((2 + 2) + b.length) + (112 - b.length))) c952).ownBlock := nb971
   have z1002 := b1000.lt
   have b1003 := ((b963.grown hg955 nb964).ext hx983)
   have nb1004 : some g904 ≠ (Value.slice A951 ((4 + 4) + (((2 + 2) + b.length) + (112 - b.length))) c952).ownBlock := nb972
   have z1005 := b1003.lt
   have nb1006 : some g976 ≠ (Value.slice A951 ((4 + 4) + (((2 + 2) + b.length) + (112 - b.length))) c952).ownBlock := nb989
   have z1007 := b978.lt
   have r1008 := (own_ext r979 hx983)
   have hf1009 := r1008
   have ap1010 : Apart (.slice A860 (((2 + 2) + b.length) + (112 - b.length)) c861) (.slice A951 ((4 + 4) + (((2 + 2) + b.length) + (112 - b.length))) c952) := ap973
   refine wpl_op (i := 5) rfl (o_appB (zs := byteVals ((((numL n 4) ++ (numL ((crc ((((numL k 2) ++ ([(0 : UInt8), (UInt8.ofNat b.length)])) ++ b) ++ List.replicate (112 - b.length) 0)).toNat) 4)) ++ ((((numL k 2) ++ ([(0 : UInt8), (UInt8.ofNat b.length)])) ++ b) ++ List.replicate (112 - b.length) 0)) ++ (numL n 4))) El35 F985 rfl rfl rfl rfl rfl (F985.get rfl) (F985.get rfl) hf999 (Fl.cel (Fl.blk (S := fun b => b = g976) (k := 1) (n := 4) (c := 4) b978 (by rw [byteVals_len (numL_len _ _), Nat.mul_one]) (byteVals_one _) (by omega) rfl)).2.2 (by omega) (by omega) (by omega) (byteVals_app _ _) ?_)
   intro A991 c992 w993 a1011 F1012 r994 hg995 z996 z997 hnb998; clear F985; have z1013 := hg995.size
   have nb1014 := hnb998 g798 (by omega) nb1001
   have nb1015 := hnb998 g904 (by omega) nb1004
   have nb1016 := hnb998 g976 (by omega) nb1006
   have ap1017 := Apart.app hf1009 ap1010 hnb998
   refine qv 6 (.slice A991 (((4 + 4) + (((2 + 2) + b.length) + (112 - b.length))) + 4) c992) F1012 rfl (rn_assign (F1012.get rfl)) fun _ F1019 => ?_; clear F1012
   refine wpList_nil ?_
   refine hK945 _ _ ?_
   clear hK945
   have F1020 := (((((((((((F1019.nil.c F1019 13 rfl).c F1019 12 rfl).c F1019 17 rfl).c F1019 14 rfl).c F1019 11 rfl).c F1019 10 rfl).c F1019 4 rfl).c F1019 3 rfl).c F1019 2 rfl).c F1019 1 rfl).c F1019 0 rfl)
   clear F1019
   refine wp_ret ?_
   refine ret1 F1020 rfl rfl ?_
   subst hc11 hc524
   have hq : (((numL n 4) ++ (numL ((crc ((((numL k 2) ++ ([(0 : UInt8), (UInt8.ofNat b.length)])) ++ b) ++ List.replicate (112 - b.length) 0)).toNat) 4)) ++ ((((numL k 2) ++ ([(0 : UInt8), (UInt8.ofNat b.length)])) ++ b) ++ List.replicate (112 - b.length) 0)) ++ (numL n 4) = encL n k (kindOf false false) b := by rw [encL, bodyL]; simp only [List.append_assoc]; rfl
   rw [hq] at r994
   have hl := (r994).1
   rw [byteVals_len (encL_len hb)] at hl
   exact sector_fin r994 (encL_len hb) (by omega) (ext_row ((ext_row (((((ext_row (ext_row ((((Ext.refl w).trans hx785).trans hx801).grownN hg823 (by omega)) hg837 hf841 (by omega)) hg864 hf868 (by omega)).trans hx887).trans hx898).trans hx910).grownN hg941 (by omega)) hg955 hf959 (by omega)).trans hx983) hg995 hf999 (by omega))

theorem sector_at {v : Value} {m : Nat} (n k : Nat) (b1 b2 : Bool) (b : List UInt8) (w : World) (hf : Fl S w 1 v m (byteVals b)) (hb : m ≤ 112) (hn : n < 18446744073709551616) (hk : k < 65536) :
  Calls Try.prog 47 #[.int .u64 (n : Nat), .int .i64 (k : Nat), .bool b1, .bool b2, v] w (fun e w' => ∃ A c, e = .returned (.slice A 128 c) ∧ Fl (fun b => w.heap.size ≤ b) w' 1 (.slice A 128 c) 128 (byteVals (encL n k (kindOf b1 b2) b)) ∧ Ext w w') := by
 have h1 := hf.blen
 subst h1
 obtain ⟨A, c, rfl, _⟩ := hf.form
 exact sector_any n k b1 b2 A c b w hf hb hn hk

end Go.Proofs.Ytfmhnplkpohogaa
