/- Contract of the reference's good. -/
import Derived.Test.YtfmhnplkpohogaaProg
import Derived.Test.YtfmhnplkpohogaaBvsF
import Derived.KernelRfl
import Derived.Test.YtfmhnplkpohogaaBvsA
import Derived.Test.YtfmhnplkpohogaaBvsB
set_option linter.unusedVariables false
set_option linter.unusedSimpArgs false
namespace Go.Proofs.Ytfmhnplkpohogaa
open Go.RowKit

variable {S S' : Nat → Prop}

theorem RBss.clip {w : World} {v : Value} {l : List (List UInt8)} (h : RBss S w v l) : RBss (Clip S w) w v l := h.subB fun _ hb hs => ⟨hs, hb⟩
theorem good_kind {s : List UInt8} {k : Nat} (h : goodS s k = true) : (s.getD 11 0).toNat ≤ 112 ∧ (s.getD 10 0).toNat ≤ 3 ∧ 0 < num (s.take 4) := by
 have h := of_decide_eq_true h
 exact ⟨h.1.1, h.1.2.1, h.2.1⟩
theorem pad_step {s : List UInt8} {a i : Nat} (h : ∀ j, a ≤ j → j < i → s.getD j 0 = 0) (hi : (s.getD i 0).toNat = 0) : ∀ j, a ≤ j → j < i + 1 → s.getD j 0 = 0 := fun j h1 h2 => by
 by_cases hj : j < i
 ·exact h j h1 hj
 ·have : j = i := by omega
  subst this
  exact UInt8.toNat_inj.1 hi
/-- what the reference asks of a sector -/
theorem rgood_iff {s : List UInt8} {k : Nat} (hs : s.length = 128) (hk : k < 65536) : goodS s k = true ↔
  (¬ num (s.take 4) = 0 ∧ num (s.take 4) = num (s.drop 124) ∧ (UInt32.ofNat (num ((s.drop 4).take 4))).toNat = (crc ((s.drop 8).take 116)).toNat ∧ num ((s.drop 8).take 2) = k ∧ (s.getD 10 0).toNat ≤ 3 ∧ (s.getD 11 0).toNat ≤ 112 ∧ ¬ ((s.getD 10 0).toNat < 2 ∧ ¬ (s.getD 11 0).toNat = 112) ∧ ¬ ((s.getD 10 0).toNat % 2 = 0 ∧ (s.getD 11 0).toNat = 0)) ∧
  (∀ j, 12 + (s.getD 11 0).toNat ≤ j → j < 124 → s.getD j 0 = 0) := by
 constructor
 ·intro h
  obtain ⟨h1, h2, h3⟩ := of_decide_eq_true h
  have hb : (dataL s).length ≤ 112 := by rw [data_len h]; exact h1.1
  have hc := data_len h
  have g2 := good_gen2 h
  obtain ⟨k1, k2, k3, k4⟩ := h1
  have e4 : (s.drop 4).take 4 = numL (crc ((s.drop 8).take 116)).toNat 4 := by
   have e := encL_sum (g := gen s) (k := k) (q := kd s) (b := dataL s)
   rw [← encL_body (g := gen s) (k := k) (q := kd s) hb, ← h3] at e
   exact e
  have eb : (s.drop 8).take 116 = bodyL k (kd s) (dataL s) := by
   have e := encL_body (g := gen s) (k := k) (q := kd s) hb
   rw [← h3] at e; exact e
  have lc := (crc ((s.drop 8).take 116)).toNat_lt
  refine ⟨⟨by show ¬ gen s = 0; omega, g2.symm, ?_, ?_, k2, k1, ?_, ?_⟩, fun j j1 j2 => ?_⟩
  ·rw [e4, num_numL, UInt32.toNat_ofNat']; omega
  ·have e2 : (s.drop 8).take 2 = numL k 2 := by
    have : ((s.drop 8).take 116).take 2 = (s.drop 8).take 2 := by rw [List.take_take]; rfl
    rw [← this, eb, bodyL, List.append_assoc, List.append_assoc, List.take_append_of_le_length (by rw [numL_len]; omega), List.take_of_length_le (by rw [numL_len]; omega)]
   rw [e2, num_numL]; omega
  ·rintro ⟨q1, q2⟩; exact q2 (k3 q1)
  ·rintro ⟨q1, q2⟩; exact k4 q1 q2
  ·have ej : s.getD j 0 = ((s.drop 8).take 116).getD (j - 8) 0 := by rw [getD_take' (by omega), ← getD_drop8, show 8 + (j - 8) = j by omega]
   rw [ej, eb, bodyL, List.getD_eq_getElem?_getD, List.getElem?_append_right (by simp only [List.length_append, numL_len, List.length_cons, List.length_nil, hc]; show _ ≤ j - 8; simp only [cnt]; omega)]
   rw [List.getElem?_replicate]; split <;> rfl
 ·rintro ⟨⟨h0, h1, h2, h3, h4, h5, h6, h7⟩, hp⟩
  have hd : (dataL s).length = (s.getD 11 0).toNat := by
   rw [dataL, List.length_take, List.length_drop, hs, cnt]; omega
  have hb : (dataL s).length ≤ 112 := by omega
  rw [goodS_eq ⟨h5, h4, fun q => by show (s.getD 11 0).toNat = 112; exact Decidable.by_contra fun c => h6 ⟨q, c⟩, fun q c => h7 ⟨q, c⟩⟩ (Nat.pos_of_ne_zero h0)]
  refine decide_eq_true ?_
  have eb : (s.drop 8).take 116 = bodyL k (kd s) (dataL s) := by
   refine ext_getD (by rw [bodyL_len hb, List.length_take, List.length_drop, hs]; rfl) fun j hj => ?_
   rw [List.length_take, List.length_drop, hs] at hj
   rw [getD_take' (by omega), ← getD_drop8]
   have e2 : (s.drop 8).take 2 = numL k 2 := num_inj (by rw [numL_len, List.length_take, List.length_drop, hs]; rfl) (by rw [h3, num_numL]; omega)
   simp only [bodyL, List.getD_eq_getElem?_getD]
   by_cases j1 : j < 2
   ·rw [List.append_assoc, List.append_assoc, List.getElem?_append_left (by rw [numL_len]; omega), ← e2, List.getElem?_take, if_pos (by omega), List.getElem?_drop]
   ·rw [List.append_assoc, List.append_assoc, List.getElem?_append_right (by rw [numL_len]; omega), numL_len]
    by_cases j2 : j < 4
    ·rw [List.getElem?_append_left (by simp; omega)]
     have : j = 2 ∨ j = 3 := by omega
     rcases this with rfl | rfl
     ·simp [kd, List.getD_eq_getElem?_getD]
     ·simp only [Nat.reduceAdd, Nat.reduceSub, List.getElem?_cons_succ, List.getElem?_cons_zero, Option.getD_some]
      rw [hd, UInt8.ofNat_toNat, List.getD_eq_getElem?_getD]
    ·rw [List.getElem?_append_right (by simp; omega)]
     by_cases j3 : j - 4 < (s.getD 11 0).toNat
     ·rw [List.getElem?_append_left (by rw [hd]; simp only [List.length_cons, List.length_nil]; omega), dataL, List.getElem?_take, if_pos (by simp only [cnt, List.length_cons, List.length_nil]; omega), List.getElem?_drop]
      congr 2
      simp only [List.length_cons, List.length_nil]; omega
     ·rw [List.getElem?_append_right (by rw [hd]; simp only [List.length_cons, List.length_nil]; omega)]
      have := hp (8 + j) (by omega) (by omega)
      rw [List.getD_eq_getElem?_getD] at this
      rw [this, List.getElem?_replicate]
      split <;> rfl
  refine ext_getD (by rw [encL_len hb, hs]) fun j hj => ?_
  have e0 : s.take 4 = numL (gen s) 4 := num_inj (by rw [numL_len, List.length_take, hs]; rfl) (by show gen s = _; rw [num_numL]; exact (Nat.mod_eq_of_lt gen_lt).symm)
  have e9 : s.drop 124 = numL (gen s) 4 := num_inj (by rw [numL_len, List.length_drop, hs]) (by rw [← h1]; show gen s = _; rw [num_numL]; exact (Nat.mod_eq_of_lt gen_lt).symm)
  have lc := (crc ((s.drop 8).take 116)).toNat_lt
  have ln := num_lt ((s.drop 4).take 4)
  have ll : ((s.drop 4).take 4).length = 4 := by rw [List.length_take, List.length_drop, hs]; rfl
  rw [ll] at ln
  have e4 : (s.drop 4).take 4 = numL (crc (bodyL k (kd s) (dataL s))).toNat 4 := num_inj (by rw [numL_len, ll]) (by
   rw [← eb, num_numL, ← h2, UInt32.toNat_ofNat']; omega)
  rw [hs] at hj
  by_cases j1 : j < 4
  ·rw [← getD_take' (l := s) j1, e0, ← getD_take' (l := encL _ _ _ _) j1, encL_take]
  ·by_cases j2 : j < 8
   ·have a1 : s.getD j 0 = ((s.drop 4).take 4).getD (j - 4) 0 := by rw [getD_take' (by omega), ← getD_drop8, show 4 + (j - 4) = j by omega]
    have a2 : (encL (gen s) k (kd s) (dataL s)).getD j 0 = (((encL (gen s) k (kd s) (dataL s)).drop 4).take 4).getD (j - 4) 0 := by rw [getD_take' (by omega), ← getD_drop8, show 4 + (j - 4) = j by omega]
    rw [a1, a2, e4, encL_sum]
   ·by_cases j3 : j < 124
    ·have a1 : s.getD j 0 = ((s.drop 8).take 116).getD (j - 8) 0 := by rw [getD_take' (by omega), ← getD_drop8, show 8 + (j - 8) = j by omega]
     have a2 := encL_at (g := gen s) (k := k) (q := kd s) hb (i := j - 8) (by omega)
     rw [show 8 + (j - 8) = j by omega] at a2
     rw [a1, a2, eb]
    ·have a1 : s.getD j 0 = (s.drop 124).getD (j - 124) 0 := by rw [← getD_drop8, show 124 + (j - 124) = j by omega]
     have a2 : (encL (gen s) k (kd s) (dataL s)).getD j 0 = ((encL (gen s) k (kd s) (dataL s)).drop 124).getD (j - 124) 0 := by rw [← getD_drop8, show 124 + (j - 124) = j by omega]
     rw [a1, a2, e9, encL_drop hb]

set_option maxRecDepth 100000 in
set_option maxHeartbeats 1000000 in
theorem rgood_any (A : Option Addr) (c : Nat) (s : List UInt8) (k : Nat) (w : World) (hf : Fl S w 1 (.slice A s.length c) s.length (byteVals s)) (hs : s.length = 128) (hk : k < 65536) :
  Calls Try.prog 72 #[.slice A s.length c, .int .i64 (k : Nat)] w (fun e w' => e = .returned (.bool (goodS s k)) ∧ Ext w w') := by
 have hc : Fl (Clip S w) w 1 (.slice A s.length c) s.length (byteVals s) := hf.clip
 have hcc := (Fl.cel hc).2.1
 refine calls_enter (l := [(.slice A s.length c), (.int .i64 (k : Nat))]) Try.func72 rfl rfl rfl (fun aA hF => ?_)
 refine wp_seq_k (fun K1 hK1 => ?_)
 refine wp_region_lit ?_
 refine qv 0 (.bool false) hF rfl (rn_assign rfl) fun _ F3 => ?_; clear hF
 refine wpList_nil ?_
 refine hK1 _ _ ?_
 clear hK1
 refine wp_seq_k (fun K4 hK4 => ?_)
 refine wp_region_lit ?_
 refine qv 0 (.slice A s.length c) F3 rfl (rn_move (F3.get rfl)) fun _ F6 => ?_; clear F3
 obtain ⟨b7, o8, hA9, -⟩ := Fl.at hc (by omega)
 refine qv 1 (.pointer (some ⟨b7, o8 + 11, none⟩)) F6 rfl (rn_index1 Try.underlying35 inf5 ((F6.get rfl).trans (by rw [hA9])) rfl (by omega : (0 : Int) ≤ 11) (by omega : (11 : Int) < ((s.length : Nat) : Int))) fun _ F11 => ?_; clear F6
 refine qv 2 (.int .u8 ((s.getD 11 0).toNat : Nat)) F11 rfl (rn_load (isAgg_no Try.underlying5 rfl) (F11.get rfl) (Fl.cellAt hc hA9 (byteVals_at (i := 11) (by omega)))) fun _ F13 => ?_; clear F11
 have z14 := UInt8.toNat_lt (s.getD 11 0)
 refine qv 3 (.int .i64 ((s.getD 11 0).toNat : Nat)) F13 rfl (rn_convW Try.underlying5 Try.underlying3 (F13.get rfl) (cv8_64 (s.getD 11 0))) fun _ F16 => ?_; clear F13
 refine qv 4 (.int .i64 ((s.getD 11 0).toNat : Nat)) F16 rfl (rn_assign (F16.get rfl)) fun _ F18 => ?_; clear F16
 refine wpList_nil ?_
 refine hK4 _ _ ?_
 clear hK4
 have F19 := ((((F18.nil.c F18 5 rfl).c F18 4 rfl).c F18 1 rfl).c F18 0 rfl)
 clear F18
 refine wp_seq_k (fun K20 hK20 => ?_)
 refine wp_seq_k (fun K21 hK21 => ?_)
 have z22 := UInt8.toNat_lt (s.getD 10 0)
 have hrem : ((s.getD 10 0) % 2).toNat = (s.getD 10 0).toNat % 2 := by rw [UInt8.toNat_mod]; rfl
 have hx24 : ∃ W, w.drew = W ∧ Ext w W := ⟨_, rfl, (Ext.refl _).drew⟩
 obtain ⟨w23, e25, hx24⟩ := hx24
 have z26 := hx24.size
 refine any_start (fun W => Ext w23 W) (fun i => false) 62 #[false, false, false, false, false, false, false, false, false, false, false, false, false, false, false, false, false, false, false, false, false, false, false, false, false, false, false, false, false, false, false, false, false, false, false, false, false, false, false, false, false, false, false, false, false, false, false, false, false, false, false, false, false, false, false, false, false, false, false, false, false, false] rfl rfl rfl ?_
 rw [e25]; clear e25
 refine qp 0 (.slice A s.length c) F19 rfl rfl (fun W => (rn_move (F19.get rfl))) fun _ F28 => ?_; clear F19
 refine qp 1 (.slice A 4 c) F28 rfl rfl (fun W => (rn_sliceHi Try.underlying35 inf5 (F28.get rfl) rfl (by omega : (0 : Int) ≤ 4) (by omega : (4 : Int) ≤ ((c : Nat) : Int)))) fun _ F30 => ?_; clear F28
 refine any_one (i := 2) (by decide +kernel) rfl ?_
 have d31 := (hc.ext hx24)
 have hf32 := (Fl.take_eq (j := 4) d31 (by omega) (byteVals_take1 _ _))
 have z33 := num_lt4 (l := s.take 4) (by have := Fl.blen hf32; omega)
 refine o_call F30 rfl rfl rfl rfl (rn_call (args1 (F30.get rfl)) rfl (by kernel_rfl)) (number_at (v := (.slice A 4 c)) (m := 4) (s.take 4) _ hf32 (by omega)) ?_
 rintro _ w34 ⟨rfl, hx35⟩
 refine ⟨_, rfl, ?_⟩; intro a36 F37; clear F30; have z38 := hx35.size
 refine ⟨fun _ _ => ((Ext.refl w23).trans hx35), ?_⟩
 refine qp 3 (.bool (decide (((num (s.take 4) : Nat) : Int) = (0 : Int)))) F37 rfl rfl (fun W => (rn_eql (F37.get rfl) rfl)) fun _ F40 => ?_; clear F37
 refine qp 4 (.bool (decide (((num (s.take 4) : Nat) : Int) = (0 : Int)))) F40 rfl rfl (fun W => (rn_move (F40.get rfl))) fun _ F42 => ?_; clear F40
 by_cases hc43 : ((num (s.take 4) : Nat) : Int) = (0 : Int)
 ·skip
  refine qk 5 F42 rfl (decide_eq_true hc43) fun _ F45 => ?_; clear F42
  refine qk 6 F45 rfl (decide_eq_true hc43) fun _ F47 => ?_; clear F45
  refine qk 8 F47 rfl (decide_eq_true hc43) fun _ F49 => ?_; clear F47
  refine qk 9 F49 rfl (decide_eq_true hc43) fun _ F51 => ?_; clear F49
  refine any_one (i := 7) (by decide +kernel) rfl ?_
  refine o_skip F51 rfl (unwanted_guard rfl rfl rfl F51 rfl (decide_eq_true hc43) rfl) rfl rfl ?_
  intro a52 F53; clear F51
  refine ⟨fun _ _ => ((Ext.refl w23).trans hx35), ?_⟩
  refine any_one (i := 10) (by decide +kernel) rfl ?_
  refine o_skip F53 rfl (unwanted_guard rfl rfl rfl F53 rfl (decide_eq_true hc43) rfl) rfl rfl ?_
  intro a54 F55; clear F53
  refine ⟨fun _ _ => ((Ext.refl w23).trans hx35), ?_⟩
  refine qk 11 F55 rfl (decide_eq_true hc43) fun _ F57 => ?_; clear F55
  refine qp 12 (.bool true) F57 rfl rfl (fun W => (rn_pickT (c_true F57 rfl (decide_eq_true hc43)) rfl)) fun _ F59 => ?_; clear F57
  refine qp 13 (.bool true) F59 rfl rfl (fun W => (rn_move (F59.get rfl))) fun _ F61 => ?_; clear F59
  refine qk 14 F61 rfl rfl fun _ F63 => ?_; clear F61
  refine qk 15 F63 rfl rfl fun _ F65 => ?_; clear F63
  refine qk 18 F65 rfl rfl fun _ F67 => ?_; clear F65
  refine qk 19 F67 rfl rfl fun _ F69 => ?_; clear F67
  refine any_one (i := 16) (by decide +kernel) rfl ?_
  refine o_skip F69 rfl (unwanted_guard rfl rfl rfl F69 rfl rfl rfl) rfl rfl ?_
  intro a70 F71; clear F69
  refine ⟨fun _ _ => ((Ext.refl w23).trans hx35), ?_⟩
  refine qk 17 F71 rfl rfl fun _ F73 => ?_; clear F71
  refine any_one (i := 20) (by decide +kernel) rfl ?_
  refine o_skip F73 rfl (unwanted_guard rfl rfl rfl F73 rfl rfl rfl) rfl rfl ?_
  intro a74 F75; clear F73
  refine ⟨fun _ _ => ((Ext.refl w23).trans hx35), ?_⟩
  refine qk 21 F75 rfl rfl fun _ F77 => ?_; clear F75
  refine qp 22 (.bool true) F77 rfl rfl (fun W => (rn_pickT (c_true F77 rfl rfl) rfl)) fun _ F79 => ?_; clear F77
  refine qp 23 (.bool true) F79 rfl rfl (fun W => (rn_move (F79.get rfl))) fun _ F81 => ?_; clear F79
  refine qk 24 F81 rfl rfl fun _ F83 => ?_; clear F81
  refine qk 25 F83 rfl rfl fun _ F85 => ?_; clear F83
  refine qk 27 F85 rfl rfl fun _ F87 => ?_; clear F85
  refine qk 28 F87 rfl rfl fun _ F89 => ?_; clear F87
  refine any_one (i := 26) (by decide +kernel) rfl ?_
  refine o_skip F89 rfl (unwanted_guard rfl rfl rfl F89 rfl rfl rfl) rfl rfl ?_
  intro a90 F91; clear F89
  refine ⟨fun _ _ => ((Ext.refl w23).trans hx35), ?_⟩
  refine qk 29 F91 rfl rfl fun _ F93 => ?_; clear F91
  refine qp 30 (.bool true) F93 rfl rfl (fun W => (rn_pickT (c_true F93 rfl rfl) rfl)) fun _ F95 => ?_; clear F93
  refine qp 31 (.bool true) F95 rfl rfl (fun W => (rn_move (F95.get rfl))) fun _ F97 => ?_; clear F95
  refine qk 32 F97 rfl rfl fun _ F99 => ?_; clear F97
  refine qk 33 F99 rfl rfl fun _ F101 => ?_; clear F99
  refine qk 34 F101 rfl rfl fun _ F103 => ?_; clear F101
  refine qk 35 F103 rfl rfl fun _ F105 => ?_; clear F103
  refine qp 36 (.bool true) F105 rfl rfl (fun W => (rn_pickT (c_true F105 rfl rfl) rfl)) fun _ F107 => ?_; clear F105
  refine qp 37 (.bool true) F107 rfl rfl (fun W => (rn_move (F107.get rfl))) fun _ F109 => ?_; clear F107
  refine qk 38 F109 rfl rfl fun _ F111 => ?_; clear F109
  refine qk 39 F111 rfl rfl fun _ F113 => ?_; clear F111
  refine qp 40 (.bool true) F113 rfl rfl (fun W => (rn_pickT (c_true F113 rfl rfl) rfl)) fun _ F115 => ?_; clear F113
  refine qp 41 (.bool true) F115 rfl rfl (fun W => (rn_move (F115.get rfl))) fun _ F117 => ?_; clear F115
  refine qk 42 F117 rfl rfl fun _ F119 => ?_; clear F117
  refine qk 43 F119 rfl rfl fun _ F121 => ?_; clear F119
  refine qk 44 F121 rfl rfl fun _ F123 => ?_; clear F121
  refine qk 45 F123 rfl rfl fun _ F125 => ?_; clear F123
  refine qk 46 F125 rfl rfl fun _ F127 => ?_; clear F125
  refine qn 47 F127 rfl (unwanted_undef rfl rfl rfl F127 rfl) fun _ F129 => ?_; clear F127
  refine qn 48 F129 rfl (unwanted_undef rfl rfl rfl F129 rfl) fun _ F131 => ?_; clear F129
  refine qk 49 F131 rfl rfl fun _ F133 => ?_; clear F131
  refine qp 50 (.bool true) F133 rfl rfl (fun W => (rn_pickT (c_true F133 rfl rfl) rfl)) fun _ F135 => ?_; clear F133
  refine qp 51 (.bool true) F135 rfl rfl (fun W => (rn_move (F135.get rfl))) fun _ F137 => ?_; clear F135
  refine qk 52 F137 rfl rfl fun _ F139 => ?_; clear F137
  refine qk 53 F139 rfl rfl fun _ F141 => ?_; clear F139
  refine qk 54 F141 rfl rfl fun _ F143 => ?_; clear F141
  refine qk 55 F143 rfl rfl fun _ F145 => ?_; clear F143
  refine qk 56 F145 rfl rfl fun _ F147 => ?_; clear F145
  refine qk 57 F147 rfl rfl fun _ F149 => ?_; clear F147
  refine qn 58 F149 rfl (unwanted_undef rfl rfl rfl F149 rfl) fun _ F151 => ?_; clear F149
  refine qn 59 F151 rfl (unwanted_undef rfl rfl rfl F151 rfl) fun _ F153 => ?_; clear F151
  refine qk 60 F153 rfl rfl fun _ F155 => ?_; clear F153
  refine qp 61 (.bool true) F155 rfl rfl (fun W => (rn_pickT (c_true F155 rfl rfl) rfl)) fun _ F157 => ?_; clear F155
  refine any_nil (by decide +kernel) ?_
  refine hK21 _ _ ?_
  clear hK21
  have F158 := (((((F157.nil.c F157 72 rfl).c F157 5 rfl).c F157 4 rfl).c F157 1 rfl).c F157 0 rfl)
  clear F157
  refine wp_cond_true (c_true F158 rfl rfl) ?_
  refine wp_seq_k (fun K159 hK159 => ?_)
  refine wp_region_lit ?_
  refine qv 0 (.bool false) F158 rfl (rn_assign rfl) fun _ F161 => ?_; clear F158
  refine wpList_nil ?_
  refine hK159 _ _ ?_
  clear hK159
  refine wp_ret ?_
  refine ret_then ?_
  refine ret1 F161 rfl rfl ?_
  have hg := rgood_iff (k := k) hs hk
  have hno : ¬ goodS s k = true := fun h => by
   obtain ⟨hg1, hg2⟩ := hg.1 h
   omega
  exact ⟨congrArg (fun b => Ending.returned (.bool b)) (show false = goodS s k from (Bool.eq_false_iff.2 hno).symm), (((Ext.refl w).trans hx24).trans hx35)⟩
 ·skip
  refine qp 5 (.slice A s.length c) F42 rfl (wanted_guard rfl rfl rfl F42 rfl (decide_eq_false hc43) rfl) (fun W => (rn_move (F42.get rfl))) fun _ F163 => ?_; clear F42
  refine qp 6 (.slice A 4 c) F163 rfl (wanted_guard rfl rfl rfl F163 rfl (decide_eq_false hc43) rfl) (fun W => (rn_sliceHi Try.underlying35 inf5 (F163.get rfl) rfl (by omega : (0 : Int) ≤ 4) (by omega : (4 : Int) ≤ ((c : Nat) : Int)))) fun _ F165 => ?_; clear F163
  refine qp 8 (.slice A s.length c) F165 rfl (wanted_guard rfl rfl rfl F165 rfl (decide_eq_false hc43) rfl) (fun W => (rn_move (F165.get rfl))) fun _ F167 => ?_; clear F165
  refine qp 9 (.slice (some ⟨b7, o8 + 124 * 1, none⟩) (s.length - 124) (c - 124)) F167 rfl (wanted_guard rfl rfl rfl F167 rfl (decide_eq_false hc43) rfl) (fun W => (rn_sliceLo (l := 124) Try.underlying35 inf5 ((F167.get rfl).trans (by rw [hA9])) rfl (by omega : 124 ≤ s.length) (by omega : 124 < c))) fun _ F169 => ?_; clear F167
  refine any_one (i := 7) (by decide +kernel) rfl ?_
  have d170 := ((hc.ext hx24).ext hx35)
  have hf171 := (Fl.take_eq (j := 4) d170 (by omega) (byteVals_take1 _ _))
  have z172 := num_lt4 (l := s.take 4) (by have := Fl.blen hf171; omega)
  refine o_call F169 rfl (wanted_guard rfl rfl rfl F169 rfl (decide_eq_false hc43) rfl) rfl rfl (rn_call (args1 (F169.get rfl)) rfl (by kernel_rfl)) (number_at (v := (.slice A 4 c)) (m := 4) (s.take 4) _ hf171 (by omega)) ?_
  rintro _ w173 ⟨rfl, hx174⟩
  refine ⟨_, rfl, ?_⟩; intro a175 F176; clear F169; have z177 := hx174.size
  refine ⟨fun _ _ => (((Ext.refl w23).trans hx35).trans hx174), ?_⟩
  refine any_one (i := 10) (by decide +kernel) rfl ?_
  have d178 := (((hc.ext hx24).ext hx35).ext hx174)
  have hf179 := (Fl.drop_eq (j := 124) d178 hA9 (by omega) (byteVals_drop1 _ _))
  have z180 := num_lt4 (l := s.drop 124) (by have := Fl.blen hf179; omega)
  refine o_call F176 rfl (wanted_guard rfl rfl rfl F176 rfl (decide_eq_false hc43) rfl) rfl rfl (rn_call (args1 (F176.get rfl)) rfl (by kernel_rfl)) (number_at (v := (.slice (some ⟨b7, o8 + 124 * 1, none⟩) (s.length - 124) (c - 124))) (m := s.length - 124) (s.drop 124) _ hf179 (by omega)) ?_
  rintro _ w181 ⟨rfl, hx182⟩
  refine ⟨_, rfl, ?_⟩; intro a183 F184; clear F176; have z185 := hx182.size
  refine ⟨fun _ _ => ((((Ext.refl w23).trans hx35).trans hx174).trans hx182), ?_⟩
  refine qp 11 (.bool (decide (((num (s.take 4) : Nat) : Int) ≠ ((num (s.drop 124) : Nat) : Int)))) F184 rfl (wanted_guard rfl rfl rfl F184 rfl (decide_eq_false hc43) rfl) (fun W => (rn_neq (F184.get rfl) (F184.get rfl))) fun _ F187 => ?_; clear F184
  refine qp 12 (.bool (decide (((num (s.take 4) : Nat) : Int) ≠ ((num (s.drop 124) : Nat) : Int)))) F187 rfl rfl (fun W => (rn_pickF (c_false F187 rfl (decide_eq_false hc43)) (F187.get rfl))) fun _ F189 => ?_; clear F187
  refine qp 13 (.bool (decide (((num (s.take 4) : Nat) : Int) ≠ ((num (s.drop 124) : Nat) : Int)))) F189 rfl rfl (fun W => (rn_move (F189.get rfl))) fun _ F191 => ?_; clear F189
  by_cases hc192 : ((num (s.take 4) : Nat) : Int) ≠ ((num (s.drop 124) : Nat) : Int)
  ·skip
   refine qk 14 F191 rfl (decide_eq_true hc192) fun _ F194 => ?_; clear F191
   refine qk 15 F194 rfl (decide_eq_true hc192) fun _ F196 => ?_; clear F194
   refine qk 18 F196 rfl (decide_eq_true hc192) fun _ F198 => ?_; clear F196
   refine qk 19 F198 rfl (decide_eq_true hc192) fun _ F200 => ?_; clear F198
   refine any_one (i := 16) (by decide +kernel) rfl ?_
   refine o_skip F200 rfl (unwanted_guard rfl rfl rfl F200 rfl (decide_eq_true hc192) rfl) rfl rfl ?_
   intro a201 F202; clear F200
   refine ⟨fun _ _ => ((((Ext.refl w23).trans hx35).trans hx174).trans hx182), ?_⟩
   refine qk 17 F202 rfl (decide_eq_true hc192) fun _ F204 => ?_; clear F202
   refine any_one (i := 20) (by decide +kernel) rfl ?_
   refine o_skip F204 rfl (unwanted_guard rfl rfl rfl F204 rfl (decide_eq_true hc192) rfl) rfl rfl ?_
   intro a205 F206; clear F204
   refine ⟨fun _ _ => ((((Ext.refl w23).trans hx35).trans hx174).trans hx182), ?_⟩
   refine qk 21 F206 rfl (decide_eq_true hc192) fun _ F208 => ?_; clear F206
   refine qp 22 (.bool true) F208 rfl rfl (fun W => (rn_pickT (c_true F208 rfl (decide_eq_true hc192)) rfl)) fun _ F210 => ?_; clear F208
   refine qp 23 (.bool true) F210 rfl rfl (fun W => (rn_move (F210.get rfl))) fun _ F212 => ?_; clear F210
   refine qk 24 F212 rfl rfl fun _ F214 => ?_; clear F212
   refine qk 25 F214 rfl rfl fun _ F216 => ?_; clear F214
   refine qk 27 F216 rfl rfl fun _ F218 => ?_; clear F216
   refine qk 28 F218 rfl rfl fun _ F220 => ?_; clear F218
   refine any_one (i := 26) (by decide +kernel) rfl ?_
   refine o_skip F220 rfl (unwanted_guard rfl rfl rfl F220 rfl rfl rfl) rfl rfl ?_
   intro a221 F222; clear F220
   refine ⟨fun _ _ => ((((Ext.refl w23).trans hx35).trans hx174).trans hx182), ?_⟩
   refine qk 29 F222 rfl rfl fun _ F224 => ?_; clear F222
   refine qp 30 (.bool true) F224 rfl rfl (fun W => (rn_pickT (c_true F224 rfl rfl) rfl)) fun _ F226 => ?_; clear F224
   refine qp 31 (.bool true) F226 rfl rfl (fun W => (rn_move (F226.get rfl))) fun _ F228 => ?_; clear F226
   refine qk 32 F228 rfl rfl fun _ F230 => ?_; clear F228
   refine qk 33 F230 rfl rfl fun _ F232 => ?_; clear F230
   refine qk 34 F232 rfl rfl fun _ F234 => ?_; clear F232
   refine qk 35 F234 rfl rfl fun _ F236 => ?_; clear F234
   refine qp 36 (.bool true) F236 rfl rfl (fun W => (rn_pickT (c_true F236 rfl rfl) rfl)) fun _ F238 => ?_; clear F236
   refine qp 37 (.bool true) F238 rfl rfl (fun W => (rn_move (F238.get rfl))) fun _ F240 => ?_; clear F238
   refine qk 38 F240 rfl rfl fun _ F242 => ?_; clear F240
   refine qk 39 F242 rfl rfl fun _ F244 => ?_; clear F242
   refine qp 40 (.bool true) F244 rfl rfl (fun W => (rn_pickT (c_true F244 rfl rfl) rfl)) fun _ F246 => ?_; clear F244
   refine qp 41 (.bool true) F246 rfl rfl (fun W => (rn_move (F246.get rfl))) fun _ F248 => ?_; clear F246
   refine qk 42 F248 rfl rfl fun _ F250 => ?_; clear F248
   refine qk 43 F250 rfl rfl fun _ F252 => ?_; clear F250
   refine qk 44 F252 rfl rfl fun _ F254 => ?_; clear F252
   refine qk 45 F254 rfl rfl fun _ F256 => ?_; clear F254
   refine qk 46 F256 rfl rfl fun _ F258 => ?_; clear F256
   refine qn 47 F258 rfl (unwanted_undef rfl rfl rfl F258 rfl) fun _ F260 => ?_; clear F258
   refine qn 48 F260 rfl (unwanted_undef rfl rfl rfl F260 rfl) fun _ F262 => ?_; clear F260
   refine qk 49 F262 rfl rfl fun _ F264 => ?_; clear F262
   refine qp 50 (.bool true) F264 rfl rfl (fun W => (rn_pickT (c_true F264 rfl rfl) rfl)) fun _ F266 => ?_; clear F264
   refine qp 51 (.bool true) F266 rfl rfl (fun W => (rn_move (F266.get rfl))) fun _ F268 => ?_; clear F266
   refine qk 52 F268 rfl rfl fun _ F270 => ?_; clear F268
   refine qk 53 F270 rfl rfl fun _ F272 => ?_; clear F270
   refine qk 54 F272 rfl rfl fun _ F274 => ?_; clear F272
   refine qk 55 F274 rfl rfl fun _ F276 => ?_; clear F274
   refine qk 56 F276 rfl rfl fun _ F278 => ?_; clear F276
   refine qk 57 F278 rfl rfl fun _ F280 => ?_; clear F278
   refine qn 58 F280 rfl (unwanted_undef rfl rfl rfl F280 rfl) fun _ F282 => ?_; clear F280
   refine qn 59 F282 rfl (unwanted_undef rfl rfl rfl F282 rfl) fun _ F284 => ?_; clear F282
   refine qk 60 F284 rfl rfl fun _ F286 => ?_; clear F284
   refine qp 61 (.bool true) F286 rfl rfl (fun W => (rn_pickT (c_true F286 rfl rfl) rfl)) fun _ F288 => ?_; clear F286
   refine any_nil (by decide +kernel) ?_
   refine hK21 _ _ ?_
   clear hK21
   have F289 := (((((F288.nil.c F288 72 rfl).c F288 5 rfl).c F288 4 rfl).c F288 1 rfl).c F288 0 rfl)
   clear F288
   refine wp_cond_true (c_true F289 rfl rfl) ?_
   refine wp_seq_k (fun K290 hK290 => ?_)
   refine wp_region_lit ?_
   refine qv 0 (.bool false) F289 rfl (rn_assign rfl) fun _ F292 => ?_; clear F289
   refine wpList_nil ?_
   refine hK290 _ _ ?_
   clear hK290
   refine wp_ret ?_
   refine ret_then ?_
   refine ret1 F292 rfl rfl ?_
   have hg := rgood_iff (k := k) hs hk
   have hno : ¬ goodS s k = true := fun h => by
    obtain ⟨hg1, hg2⟩ := hg.1 h
    omega
   exact ⟨congrArg (fun b => Ending.returned (.bool b)) (show false = goodS s k from (Bool.eq_false_iff.2 hno).symm), (((((Ext.refl w).trans hx24).trans hx35).trans hx174).trans hx182)⟩
  ·skip
   refine qp 14 (.slice A s.length c) F191 rfl (wanted_guard rfl rfl rfl F191 rfl (decide_eq_false hc192) rfl) (fun W => (rn_move (F191.get rfl))) fun _ F294 => ?_; clear F191
   refine qp 15 (.slice (some ⟨b7, o8 + 4 * 1, none⟩) 4 (c - 4)) F294 rfl (wanted_guard rfl rfl rfl F294 rfl (decide_eq_false hc192) rfl) (fun W => (rn_sliceLH (l := 4) (h := 8) Try.underlying35 inf5 ((F294.get rfl).trans (by rw [hA9])) rfl rfl (by omega) (by omega) (by omega) (by omega))) fun _ F296 => ?_; clear F294
   refine qp 18 (.slice A s.length c) F296 rfl (wanted_guard rfl rfl rfl F296 rfl (decide_eq_false hc192) rfl) (fun W => (rn_move (F296.get rfl))) fun _ F298 => ?_; clear F296
   refine qp 19 (.slice (some ⟨b7, o8 + 8 * 1, none⟩) 116 (c - 8)) F298 rfl (wanted_guard rfl rfl rfl F298 rfl (decide_eq_false hc192) rfl) (fun W => (rn_sliceLH (l := 8) (h := 124) Try.underlying35 inf5 ((F298.get rfl).trans (by rw [hA9])) rfl rfl (by omega) (by omega) (by omega) (by omega))) fun _ F300 => ?_; clear F298
   refine any_one (i := 16) (by decide +kernel) rfl ?_
   have d301 := ((((hc.ext hx24).ext hx35).ext hx174).ext hx182)
   have hf302 := (Fl.mid_eq (j := 4) (m' := 4) d301 hA9 (by omega) (by omega) (byteVals_mid _ _ _))
   have z303 := num_lt4 (l := (s.drop 4).take 4) (by have := Fl.blen hf302; omega)
   refine o_call F300 rfl (wanted_guard rfl rfl rfl F300 rfl (decide_eq_false hc192) rfl) rfl rfl (rn_call (args1 (F300.get rfl)) rfl (by kernel_rfl)) (number_at (v := (.slice (some ⟨b7, o8 + 4 * 1, none⟩) 4 (c - 4))) (m := 4) ((s.drop 4).take 4) _ hf302 (by omega)) ?_
   rintro _ w304 ⟨rfl, hx305⟩
   refine ⟨_, rfl, ?_⟩; intro a306 F307; clear F300; have z308 := hx305.size
   refine ⟨fun _ _ => (((((Ext.refl w23).trans hx35).trans hx174).trans hx182).trans hx305), ?_⟩
   have hS309 : Ext w23 w304 := (((((Ext.refl w23).trans hx35).trans hx174).trans hx182).trans hx305)
   refine qs 17 (.int .u32 ((UInt32.ofNat (num ((s.drop 4).take 4))).toNat : Nat)) F307 rfl (wanted_guard rfl rfl rfl F307 rfl (decide_eq_false hc192) rfl) hS309 (fun W hW => (rn_convW Try.underlying68 Try.underlying91 (F307.get rfl) (cvn_32 (num ((s.drop 4).take 4))))) fun _ F311 => ?_; clear F307
   refine any_one (i := 20) (by decide +kernel) rfl ?_
   have d312 := (((((hc.ext hx24).ext hx35).ext hx174).ext hx182).ext hx305)
   have z313 := UInt32.toNat_lt (crc ((s.drop 8).take 116))
   refine o_call F311 rfl (wanted_guard rfl rfl rfl F311 rfl (decide_eq_false hc192) rfl) rfl rfl (rn_call (args1 (F311.get rfl)) rfl (by kernel_rfl)) (checksum_at (v := (.slice (some ⟨b7, o8 + 8 * 1, none⟩) 116 (c - 8))) (m := 116) ((s.drop 8).take 116) _ (Fl.mid_eq (j := 8) (m' := 116) d312 hA9 (by omega) (by omega) (byteVals_mid _ _ _))) ?_
   rintro _ w314 ⟨rfl, hx315⟩
   refine ⟨_, rfl, ?_⟩; intro a316 F317; clear F311; have z318 := hx315.size
   refine ⟨fun _ _ => ((((((Ext.refl w23).trans hx35).trans hx174).trans hx182).trans hx305).trans hx315), ?_⟩
   refine qp 21 (.bool (decide ((((UInt32.ofNat (num ((s.drop 4).take 4))).toNat : Nat) : Int) ≠ (((crc ((s.drop 8).take 116)).toNat : Nat) : Int)))) F317 rfl (wanted_guard rfl rfl rfl F317 rfl (decide_eq_false hc192) rfl) (fun W => (rn_neq (F317.get rfl) (F317.get rfl))) fun _ F320 => ?_; clear F317
   refine qp 22 (.bool (decide ((((UInt32.ofNat (num ((s.drop 4).take 4))).toNat : Nat) : Int) ≠ (((crc ((s.drop 8).take 116)).toNat : Nat) : Int)))) F320 rfl rfl (fun W => (rn_pickF (c_false F320 rfl (decide_eq_false hc192)) (F320.get rfl))) fun _ F322 => ?_; clear F320
   refine qp 23 (.bool (decide ((((UInt32.ofNat (num ((s.drop 4).take 4))).toNat : Nat) : Int) ≠ (((crc ((s.drop 8).take 116)).toNat : Nat) : Int)))) F322 rfl rfl (fun W => (rn_move (F322.get rfl))) fun _ F324 => ?_; clear F322
   by_cases hc325 : (((UInt32.ofNat (num ((s.drop 4).take 4))).toNat : Nat) : Int) ≠ (((crc ((s.drop 8).take 116)).toNat : Nat) : Int)
   ·skip
    refine qk 24 F324 rfl (decide_eq_true hc325) fun _ F327 => ?_; clear F324
    refine qk 25 F327 rfl (decide_eq_true hc325) fun _ F329 => ?_; clear F327
    refine qk 27 F329 rfl (decide_eq_true hc325) fun _ F331 => ?_; clear F329
    refine qk 28 F331 rfl (decide_eq_true hc325) fun _ F333 => ?_; clear F331
    refine any_one (i := 26) (by decide +kernel) rfl ?_
    refine o_skip F333 rfl (unwanted_guard rfl rfl rfl F333 rfl (decide_eq_true hc325) rfl) rfl rfl ?_
    intro a334 F335; clear F333
    refine ⟨fun _ _ => ((((((Ext.refl w23).trans hx35).trans hx174).trans hx182).trans hx305).trans hx315), ?_⟩
    refine qk 29 F335 rfl (decide_eq_true hc325) fun _ F337 => ?_; clear F335
    refine qp 30 (.bool true) F337 rfl rfl (fun W => (rn_pickT (c_true F337 rfl (decide_eq_true hc325)) rfl)) fun _ F339 => ?_; clear F337
    refine qp 31 (.bool true) F339 rfl rfl (fun W => (rn_move (F339.get rfl))) fun _ F341 => ?_; clear F339
    refine qk 32 F341 rfl rfl fun _ F343 => ?_; clear F341
    refine qk 33 F343 rfl rfl fun _ F345 => ?_; clear F343
    refine qk 34 F345 rfl rfl fun _ F347 => ?_; clear F345
    refine qk 35 F347 rfl rfl fun _ F349 => ?_; clear F347
    refine qp 36 (.bool true) F349 rfl rfl (fun W => (rn_pickT (c_true F349 rfl rfl) rfl)) fun _ F351 => ?_; clear F349
    refine qp 37 (.bool true) F351 rfl rfl (fun W => (rn_move (F351.get rfl))) fun _ F353 => ?_; clear F351
    refine qk 38 F353 rfl rfl fun _ F355 => ?_; clear F353
    refine qk 39 F355 rfl rfl fun _ F357 => ?_; clear F355
    refine qp 40 (.bool true) F357 rfl rfl (fun W => (rn_pickT (c_true F357 rfl rfl) rfl)) fun _ F359 => ?_; clear F357
    refine qp 41 (.bool true) F359 rfl rfl (fun W => (rn_move (F359.get rfl))) fun _ F361 => ?_; clear F359
    refine qk 42 F361 rfl rfl fun _ F363 => ?_; clear F361
    refine qk 43 F363 rfl rfl fun _ F365 => ?_; clear F363
    refine qk 44 F365 rfl rfl fun _ F367 => ?_; clear F365
    refine qk 45 F367 rfl rfl fun _ F369 => ?_; clear F367
    refine qk 46 F369 rfl rfl fun _ F371 => ?_; clear F369
    refine qn 47 F371 rfl (unwanted_undef rfl rfl rfl F371 rfl) fun _ F373 => ?_; clear F371
    refine qn 48 F373 rfl (unwanted_undef rfl rfl rfl F373 rfl) fun _ F375 => ?_; clear F373
    refine qk 49 F375 rfl rfl fun _ F377 => ?_; clear F375
    refine qp 50 (.bool true) F377 rfl rfl (fun W => (rn_pickT (c_true F377 rfl rfl) rfl)) fun _ F379 => ?_; clear F377
    refine qp 51 (.bool true) F379 rfl rfl (fun W => (rn_move (F379.get rfl))) fun _ F381 => ?_; clear F379
    refine qk 52 F381 rfl rfl fun _ F383 => ?_; clear F381
    refine qk 53 F383 rfl rfl fun _ F385 => ?_; clear F383
    refine qk 54 F385 rfl rfl fun _ F387 => ?_; clear F385
    refine qk 55 F387 rfl rfl fun _ F389 => ?_; clear F387
    refine qk 56 F389 rfl rfl fun _ F391 => ?_; clear F389
    refine qk 57 F391 rfl rfl fun _ F393 => ?_; clear F391
    refine qn 58 F393 rfl (unwanted_undef rfl rfl rfl F393 rfl) fun _ F395 => ?_; clear F393
    refine qn 59 F395 rfl (unwanted_undef rfl rfl rfl F395 rfl) fun _ F397 => ?_; clear F395
    refine qk 60 F397 rfl rfl fun _ F399 => ?_; clear F397
    refine qp 61 (.bool true) F399 rfl rfl (fun W => (rn_pickT (c_true F399 rfl rfl) rfl)) fun _ F401 => ?_; clear F399
    refine any_nil (by decide +kernel) ?_
    refine hK21 _ _ ?_
    clear hK21
    have F402 := (((((F401.nil.c F401 72 rfl).c F401 5 rfl).c F401 4 rfl).c F401 1 rfl).c F401 0 rfl)
    clear F401
    refine wp_cond_true (c_true F402 rfl rfl) ?_
    refine wp_seq_k (fun K403 hK403 => ?_)
    refine wp_region_lit ?_
    refine qv 0 (.bool false) F402 rfl (rn_assign rfl) fun _ F405 => ?_; clear F402
    refine wpList_nil ?_
    refine hK403 _ _ ?_
    clear hK403
    refine wp_ret ?_
    refine ret_then ?_
    refine ret1 F405 rfl rfl ?_
    have hg := rgood_iff (k := k) hs hk
    have hno : ¬ goodS s k = true := fun h => by
     obtain ⟨hg1, hg2⟩ := hg.1 h
     omega
    exact ⟨congrArg (fun b => Ending.returned (.bool b)) (show false = goodS s k from (Bool.eq_false_iff.2 hno).symm), (((((((Ext.refl w).trans hx24).trans hx35).trans hx174).trans hx182).trans hx305).trans hx315)⟩
   ·skip
    refine qp 24 (.slice A s.length c) F324 rfl (wanted_guard rfl rfl rfl F324 rfl (decide_eq_false hc325) rfl) (fun W => (rn_move (F324.get rfl))) fun _ F407 => ?_; clear F324
    refine qp 25 (.slice (some ⟨b7, o8 + 8 * 1, none⟩) 2 (c - 8)) F407 rfl (wanted_guard rfl rfl rfl F407 rfl (decide_eq_false hc325) rfl) (fun W => (rn_sliceLH (l := 8) (h := 10) Try.underlying35 inf5 ((F407.get rfl).trans (by rw [hA9])) rfl rfl (by omega) (by omega) (by omega) (by omega))) fun _ F409 => ?_; clear F407
    refine qp 27 (.int .i64 (k : Nat)) F409 rfl (wanted_guard rfl rfl rfl F409 rfl (decide_eq_false hc325) rfl) (fun W => (rn_move (F409.get rfl))) fun _ F411 => ?_; clear F409
    have hS412 : Ext w23 w314 := ((((((Ext.refl w23).trans hx35).trans hx174).trans hx182).trans hx305).trans hx315)
    refine qs 28 (.int .u64 (k : Nat)) F411 rfl (wanted_guard rfl rfl rfl F411 rfl (decide_eq_false hc325) rfl) hS412 (fun W hW => (rn_convW Try.underlying3 Try.underlying68 (F411.get rfl) (cvn_64 k (by omega)))) fun _ F414 => ?_; clear F411
    refine any_one (i := 26) (by decide +kernel) rfl ?_
    have d415 := ((((((hc.ext hx24).ext hx35).ext hx174).ext hx182).ext hx305).ext hx315)
    have hf416 := (Fl.mid_eq (j := 8) (m' := 2) d415 hA9 (by omega) (by omega) (byteVals_mid _ _ _))
    have z417 := num_lt4 (l := (s.drop 8).take 2) (by have := Fl.blen hf416; omega)
    refine o_call F414 rfl (wanted_guard rfl rfl rfl F414 rfl (decide_eq_false hc325) rfl) rfl rfl (rn_call (args1 (F414.get rfl)) rfl (by kernel_rfl)) (number_at (v := (.slice (some ⟨b7, o8 + 8 * 1, none⟩) 2 (c - 8))) (m := 2) ((s.drop 8).take 2) _ hf416 (by omega)) ?_
    rintro _ w418 ⟨rfl, hx419⟩
    refine ⟨_, rfl, ?_⟩; intro a420 F421; clear F414; have z422 := hx419.size
    refine ⟨fun _ _ => (((((((Ext.refl w23).trans hx35).trans hx174).trans hx182).trans hx305).trans hx315).trans hx419), ?_⟩
    refine qp 29 (.bool (decide (((num ((s.drop 8).take 2) : Nat) : Int) ≠ ((k : Nat) : Int)))) F421 rfl (wanted_guard rfl rfl rfl F421 rfl (decide_eq_false hc325) rfl) (fun W => (rn_neq (F421.get rfl) (F421.get rfl))) fun _ F424 => ?_; clear F421
    refine qp 30 (.bool (decide (((num ((s.drop 8).take 2) : Nat) : Int) ≠ ((k : Nat) : Int)))) F424 rfl rfl (fun W => (rn_pickF (c_false F424 rfl (decide_eq_false hc325)) (F424.get rfl))) fun _ F426 => ?_; clear F424
    refine qp 31 (.bool (decide (((num ((s.drop 8).take 2) : Nat) : Int) ≠ ((k : Nat) : Int)))) F426 rfl rfl (fun W => (rn_move (F426.get rfl))) fun _ F428 => ?_; clear F426
    by_cases hc429 : ((num ((s.drop 8).take 2) : Nat) : Int) ≠ ((k : Nat) : Int)
    ·skip
     refine qk 32 F428 rfl (decide_eq_true hc429) fun _ F431 => ?_; clear F428
     refine qk 33 F431 rfl (decide_eq_true hc429) fun _ F433 => ?_; clear F431
     refine qk 34 F433 rfl (decide_eq_true hc429) fun _ F435 => ?_; clear F433
     refine qk 35 F435 rfl (decide_eq_true hc429) fun _ F437 => ?_; clear F435
     refine qp 36 (.bool true) F437 rfl rfl (fun W => (rn_pickT (c_true F437 rfl (decide_eq_true hc429)) rfl)) fun _ F439 => ?_; clear F437
     refine qp 37 (.bool true) F439 rfl rfl (fun W => (rn_move (F439.get rfl))) fun _ F441 => ?_; clear F439
     refine qk 38 F441 rfl rfl fun _ F443 => ?_; clear F441
     refine qk 39 F443 rfl rfl fun _ F445 => ?_; clear F443
     refine qp 40 (.bool true) F445 rfl rfl (fun W => (rn_pickT (c_true F445 rfl rfl) rfl)) fun _ F447 => ?_; clear F445
     refine qp 41 (.bool true) F447 rfl rfl (fun W => (rn_move (F447.get rfl))) fun _ F449 => ?_; clear F447
     refine qk 42 F449 rfl rfl fun _ F451 => ?_; clear F449
     refine qk 43 F451 rfl rfl fun _ F453 => ?_; clear F451
     refine qk 44 F453 rfl rfl fun _ F455 => ?_; clear F453
     refine qk 45 F455 rfl rfl fun _ F457 => ?_; clear F455
     refine qk 46 F457 rfl rfl fun _ F459 => ?_; clear F457
     refine qn 47 F459 rfl (unwanted_undef rfl rfl rfl F459 rfl) fun _ F461 => ?_; clear F459
     refine qn 48 F461 rfl (unwanted_undef rfl rfl rfl F461 rfl) fun _ F463 => ?_; clear F461
     refine qk 49 F463 rfl rfl fun _ F465 => ?_; clear F463
     refine qp 50 (.bool true) F465 rfl rfl (fun W => (rn_pickT (c_true F465 rfl rfl) rfl)) fun _ F467 => ?_; clear F465
     refine qp 51 (.bool true) F467 rfl rfl (fun W => (rn_move (F467.get rfl))) fun _ F469 => ?_; clear F467
     refine qk 52 F469 rfl rfl fun _ F471 => ?_; clear F469
     refine qk 53 F471 rfl rfl fun _ F473 => ?_; clear F471
     refine qk 54 F473 rfl rfl fun _ F475 => ?_; clear F473
     refine qk 55 F475 rfl rfl fun _ F477 => ?_; clear F475
     refine qk 56 F477 rfl rfl fun _ F479 => ?_; clear F477
     refine qk 57 F479 rfl rfl fun _ F481 => ?_; clear F479
     refine qn 58 F481 rfl (unwanted_undef rfl rfl rfl F481 rfl) fun _ F483 => ?_; clear F481
     refine qn 59 F483 rfl (unwanted_undef rfl rfl rfl F483 rfl) fun _ F485 => ?_; clear F483
     refine qk 60 F485 rfl rfl fun _ F487 => ?_; clear F485
     refine qp 61 (.bool true) F487 rfl rfl (fun W => (rn_pickT (c_true F487 rfl rfl) rfl)) fun _ F489 => ?_; clear F487
     refine any_nil (by decide +kernel) ?_
     refine hK21 _ _ ?_
     clear hK21
     have F490 := (((((F489.nil.c F489 72 rfl).c F489 5 rfl).c F489 4 rfl).c F489 1 rfl).c F489 0 rfl)
     clear F489
     refine wp_cond_true (c_true F490 rfl rfl) ?_
     refine wp_seq_k (fun K491 hK491 => ?_)
     refine wp_region_lit ?_
     refine qv 0 (.bool false) F490 rfl (rn_assign rfl) fun _ F493 => ?_; clear F490
     refine wpList_nil ?_
     refine hK491 _ _ ?_
     clear hK491
     refine wp_ret ?_
     refine ret_then ?_
     refine ret1 F493 rfl rfl ?_
     have hg := rgood_iff (k := k) hs hk
     have hno : ¬ goodS s k = true := fun h => by
      obtain ⟨hg1, hg2⟩ := hg.1 h
      omega
     exact ⟨congrArg (fun b => Ending.returned (.bool b)) (show false = goodS s k from (Bool.eq_false_iff.2 hno).symm), ((((((((Ext.refl w).trans hx24).trans hx35).trans hx174).trans hx182).trans hx305).trans hx315).trans hx419)⟩
    ·skip
     refine qp 32 (.slice A s.length c) F428 rfl (wanted_guard rfl rfl rfl F428 rfl (decide_eq_false hc429) rfl) (fun W => (rn_move (F428.get rfl))) fun _ F495 => ?_; clear F428
     refine qp 33 (.pointer (some ⟨b7, o8 + 10, none⟩)) F495 rfl (wanted_guard rfl rfl rfl F495 rfl (decide_eq_false hc429) rfl) (fun W => (rn_index1 Try.underlying35 inf5 ((F495.get rfl).trans (by rw [hA9])) rfl (by omega : (0 : Int) ≤ 10) (by omega : (10 : Int) < ((s.length : Nat) : Int)))) fun _ F497 => ?_; clear F495
     have hS498 : Ext w23 w418 := (((((((Ext.refl w23).trans hx35).trans hx174).trans hx182).trans hx305).trans hx315).trans hx419)
     refine qs 34 (.int .u8 ((s.getD 10 0).toNat : Nat)) F497 rfl (wanted_guard rfl rfl rfl F497 rfl (decide_eq_false hc429) rfl) hS498 (fun W hW => (rn_load (isAgg_no Try.underlying5 rfl) (F497.get rfl) (Fl.cellAt (d31.ext hW) hA9 (byteVals_at (i := 10) (by omega))))) fun _ F500 => ?_; clear F497
     refine qp 35 (.bool (decide ((3 : Int) < (((s.getD 10 0).toNat : Nat) : Int)))) F500 rfl (wanted_guard rfl rfl rfl F500 rfl (decide_eq_false hc429) rfl) (fun W => (rn_gtr (F500.get rfl) rfl)) fun _ F502 => ?_; clear F500
     refine qp 36 (.bool (decide ((3 : Int) < (((s.getD 10 0).toNat : Nat) : Int)))) F502 rfl rfl (fun W => (rn_pickF (c_false F502 rfl (decide_eq_false hc429)) (F502.get rfl))) fun _ F504 => ?_; clear F502
     refine qp 37 (.bool (decide ((3 : Int) < (((s.getD 10 0).toNat : Nat) : Int)))) F504 rfl rfl (fun W => (rn_move (F504.get rfl))) fun _ F506 => ?_; clear F504
     by_cases hc507 : (3 : Int) < (((s.getD 10 0).toNat : Nat) : Int)
     ·skip
      refine qk 38 F506 rfl (decide_eq_true hc507) fun _ F509 => ?_; clear F506
      refine qk 39 F509 rfl (decide_eq_true hc507) fun _ F511 => ?_; clear F509
      refine qp 40 (.bool true) F511 rfl rfl (fun W => (rn_pickT (c_true F511 rfl (decide_eq_true hc507)) rfl)) fun _ F513 => ?_; clear F511
      refine qp 41 (.bool true) F513 rfl rfl (fun W => (rn_move (F513.get rfl))) fun _ F515 => ?_; clear F513
      refine qk 42 F515 rfl rfl fun _ F517 => ?_; clear F515
      refine qk 43 F517 rfl rfl fun _ F519 => ?_; clear F517
      refine qk 44 F519 rfl rfl fun _ F521 => ?_; clear F519
      refine qk 45 F521 rfl rfl fun _ F523 => ?_; clear F521
      refine qk 46 F523 rfl rfl fun _ F525 => ?_; clear F523
      refine qn 47 F525 rfl (unwanted_undef rfl rfl rfl F525 rfl) fun _ F527 => ?_; clear F525
      refine qn 48 F527 rfl (unwanted_undef rfl rfl rfl F527 rfl) fun _ F529 => ?_; clear F527
      refine qk 49 F529 rfl rfl fun _ F531 => ?_; clear F529
      refine qp 50 (.bool true) F531 rfl rfl (fun W => (rn_pickT (c_true F531 rfl rfl) rfl)) fun _ F533 => ?_; clear F531
      refine qp 51 (.bool true) F533 rfl rfl (fun W => (rn_move (F533.get rfl))) fun _ F535 => ?_; clear F533
      refine qk 52 F535 rfl rfl fun _ F537 => ?_; clear F535
      refine qk 53 F537 rfl rfl fun _ F539 => ?_; clear F537
      refine qk 54 F539 rfl rfl fun _ F541 => ?_; clear F539
      refine qk 55 F541 rfl rfl fun _ F543 => ?_; clear F541
      refine qk 56 F543 rfl rfl fun _ F545 => ?_; clear F543
      refine qk 57 F545 rfl rfl fun _ F547 => ?_; clear F545
      refine qn 58 F547 rfl (unwanted_undef rfl rfl rfl F547 rfl) fun _ F549 => ?_; clear F547
      refine qn 59 F549 rfl (unwanted_undef rfl rfl rfl F549 rfl) fun _ F551 => ?_; clear F549
      refine qk 60 F551 rfl rfl fun _ F553 => ?_; clear F551
      refine qp 61 (.bool true) F553 rfl rfl (fun W => (rn_pickT (c_true F553 rfl rfl) rfl)) fun _ F555 => ?_; clear F553
      refine any_nil (by decide +kernel) ?_
      refine hK21 _ _ ?_
      clear hK21
      have F556 := (((((F555.nil.c F555 72 rfl).c F555 5 rfl).c F555 4 rfl).c F555 1 rfl).c F555 0 rfl)
      clear F555
      refine wp_cond_true (c_true F556 rfl rfl) ?_
      refine wp_seq_k (fun K557 hK557 => ?_)
      refine wp_region_lit ?_
      refine qv 0 (.bool false) F556 rfl (rn_assign rfl) fun _ F559 => ?_; clear F556
      refine wpList_nil ?_
      refine hK557 _ _ ?_
      clear hK557
      refine wp_ret ?_
      refine ret_then ?_
      refine ret1 F559 rfl rfl ?_
      have hg := rgood_iff (k := k) hs hk
      have hno : ¬ goodS s k = true := fun h => by
       obtain ⟨hg1, hg2⟩ := hg.1 h
       omega
      exact ⟨congrArg (fun b => Ending.returned (.bool b)) (show false = goodS s k from (Bool.eq_false_iff.2 hno).symm), ((((((((Ext.refl w).trans hx24).trans hx35).trans hx174).trans hx182).trans hx305).trans hx315).trans hx419)⟩
     ·skip
      refine qp 38 (.int .i64 ((s.getD 11 0).toNat : Nat)) F506 rfl (wanted_guard rfl rfl rfl F506 rfl (decide_eq_false hc507) rfl) (fun W => (rn_move (F506.get rfl))) fun _ F561 => ?_; clear F506
      refine qp 39 (.bool (decide ((112 : Int) < (((s.getD 11 0).toNat : Nat) : Int)))) F561 rfl (wanted_guard rfl rfl rfl F561 rfl (decide_eq_false hc507) rfl) (fun W => (rn_gtr (F561.get rfl) rfl)) fun _ F563 => ?_; clear F561
      refine qp 40 (.bool (decide ((112 : Int) < (((s.getD 11 0).toNat : Nat) : Int)))) F563 rfl rfl (fun W => (rn_pickF (c_false F563 rfl (decide_eq_false hc507)) (F563.get rfl))) fun _ F565 => ?_; clear F563
      refine qp 41 (.bool (decide ((112 : Int) < (((s.getD 11 0).toNat : Nat) : Int)))) F565 rfl rfl (fun W => (rn_move (F565.get rfl))) fun _ F567 => ?_; clear F565
      by_cases hc568 : (112 : Int) < (((s.getD 11 0).toNat : Nat) : Int)
      ·skip
       refine qk 42 F567 rfl (decide_eq_true hc568) fun _ F570 => ?_; clear F567
       refine qk 43 F570 rfl (decide_eq_true hc568) fun _ F572 => ?_; clear F570
       refine qk 44 F572 rfl (decide_eq_true hc568) fun _ F574 => ?_; clear F572
       refine qk 45 F574 rfl (decide_eq_true hc568) fun _ F576 => ?_; clear F574
       refine qk 46 F576 rfl (decide_eq_true hc568) fun _ F578 => ?_; clear F576
       refine qn 47 F578 rfl (unwanted_undef rfl rfl rfl F578 rfl) fun _ F580 => ?_; clear F578
       refine qn 48 F580 rfl (unwanted_undef rfl rfl rfl F580 rfl) fun _ F582 => ?_; clear F580
       refine qk 49 F582 rfl (decide_eq_true hc568) fun _ F584 => ?_; clear F582
       refine qp 50 (.bool true) F584 rfl rfl (fun W => (rn_pickT (c_true F584 rfl (decide_eq_true hc568)) rfl)) fun _ F586 => ?_; clear F584
       refine qp 51 (.bool true) F586 rfl rfl (fun W => (rn_move (F586.get rfl))) fun _ F588 => ?_; clear F586
       refine qk 52 F588 rfl rfl fun _ F590 => ?_; clear F588
       refine qk 53 F590 rfl rfl fun _ F592 => ?_; clear F590
       refine qk 54 F592 rfl rfl fun _ F594 => ?_; clear F592
       refine qk 55 F594 rfl rfl fun _ F596 => ?_; clear F594
       refine qk 56 F596 rfl rfl fun _ F598 => ?_; clear F596
       refine qk 57 F598 rfl rfl fun _ F600 => ?_; clear F598
       refine qn 58 F600 rfl (unwanted_undef rfl rfl rfl F600 rfl) fun _ F602 => ?_; clear F600
       refine qn 59 F602 rfl (unwanted_undef rfl rfl rfl F602 rfl) fun _ F604 => ?_; clear F602
       refine qk 60 F604 rfl rfl fun _ F606 => ?_; clear F604
       refine qp 61 (.bool true) F606 rfl rfl (fun W => (rn_pickT (c_true F606 rfl rfl) rfl)) fun _ F608 => ?_; clear F606
       refine any_nil (by decide +kernel) ?_
       refine hK21 _ _ ?_
       clear hK21
       have F609 := (((((F608.nil.c F608 72 rfl).c F608 5 rfl).c F608 4 rfl).c F608 1 rfl).c F608 0 rfl)
       clear F608
       refine wp_cond_true (c_true F609 rfl rfl) ?_
       refine wp_seq_k (fun K610 hK610 => ?_)
       refine wp_region_lit ?_
       refine qv 0 (.bool false) F609 rfl (rn_assign rfl) fun _ F612 => ?_; clear F609
       refine wpList_nil ?_
       refine hK610 _ _ ?_
       clear hK610
       refine wp_ret ?_
       refine ret_then ?_
       refine ret1 F612 rfl rfl ?_
       have hg := rgood_iff (k := k) hs hk
       have hno : ¬ goodS s k = true := fun h => by
        obtain ⟨hg1, hg2⟩ := hg.1 h
        omega
       exact ⟨congrArg (fun b => Ending.returned (.bool b)) (show false = goodS s k from (Bool.eq_false_iff.2 hno).symm), ((((((((Ext.refl w).trans hx24).trans hx35).trans hx174).trans hx182).trans hx305).trans hx315).trans hx419)⟩
      ·skip
       refine qp 42 (.slice A s.length c) F567 rfl (wanted_guard rfl rfl rfl F567 rfl (decide_eq_false hc568) rfl) (fun W => (rn_move (F567.get rfl))) fun _ F614 => ?_; clear F567
       refine qp 43 (.pointer (some ⟨b7, o8 + 10, none⟩)) F614 rfl (wanted_guard rfl rfl rfl F614 rfl (decide_eq_false hc568) rfl) (fun W => (rn_index1 Try.underlying35 inf5 ((F614.get rfl).trans (by rw [hA9])) rfl (by omega : (0 : Int) ≤ 10) (by omega : (10 : Int) < ((s.length : Nat) : Int)))) fun _ F616 => ?_; clear F614
       refine qs 44 (.int .u8 ((s.getD 10 0).toNat : Nat)) F616 rfl (wanted_guard rfl rfl rfl F616 rfl (decide_eq_false hc568) rfl) hS498 (fun W hW => (rn_load (isAgg_no Try.underlying5 rfl) (F616.get rfl) (Fl.cellAt (d31.ext hW) hA9 (byteVals_at (i := 10) (by omega))))) fun _ F618 => ?_; clear F616
       refine qp 45 (.bool (decide ((((s.getD 10 0).toNat : Nat) : Int) < (2 : Int)))) F618 rfl (wanted_guard rfl rfl rfl F618 rfl (decide_eq_false hc568) rfl) (fun W => (rn_lss (F618.get rfl) rfl)) fun _ F620 => ?_; clear F618
       refine qp 46 (.bool (decide ((((s.getD 10 0).toNat : Nat) : Int) < (2 : Int)))) F620 rfl (wanted_guard rfl rfl rfl F620 rfl (decide_eq_false hc568) rfl) (fun W => (rn_move (F620.get rfl))) fun _ F622 => ?_; clear F620
       by_cases hc623 : (((s.getD 10 0).toNat : Nat) : Int) < (2 : Int)
       ·skip
        refine qp 47 (.int .i64 ((s.getD 11 0).toNat : Nat)) F622 rfl (wanted_guard rfl rfl rfl F622 rfl (decide_eq_true hc623) rfl) (fun W => (rn_move (F622.get rfl))) fun _ F625 => ?_; clear F622
        refine qp 48 (.bool (decide ((((s.getD 11 0).toNat : Nat) : Int) ≠ (112 : Int)))) F625 rfl (wanted_guard rfl rfl rfl F625 rfl (decide_eq_true hc623) rfl) (fun W => (rn_neq (F625.get rfl) rfl)) fun _ F627 => ?_; clear F625
        refine qp 49 (.bool (decide ((((s.getD 11 0).toNat : Nat) : Int) ≠ (112 : Int)))) F627 rfl (wanted_guard rfl rfl rfl F627 rfl (decide_eq_false hc568) rfl) (fun W => (rn_pickT (c_true F627 rfl (decide_eq_true hc623)) (F627.get rfl))) fun _ F629 => ?_; clear F627
        refine qp 50 (.bool (decide ((((s.getD 11 0).toNat : Nat) : Int) ≠ (112 : Int)))) F629 rfl rfl (fun W => (rn_pickF (c_false F629 rfl (decide_eq_false hc568)) (F629.get rfl))) fun _ F631 => ?_; clear F629
        refine qp 51 (.bool (decide ((((s.getD 11 0).toNat : Nat) : Int) ≠ (112 : Int)))) F631 rfl rfl (fun W => (rn_move (F631.get rfl))) fun _ F633 => ?_; clear F631
        by_cases hc634 : (((s.getD 11 0).toNat : Nat) : Int) ≠ (112 : Int)
        ·skip
         refine qk 52 F633 rfl (decide_eq_true hc634) fun _ F636 => ?_; clear F633
         refine qk 53 F636 rfl (decide_eq_true hc634) fun _ F638 => ?_; clear F636
         refine qk 54 F638 rfl (decide_eq_true hc634) fun _ F640 => ?_; clear F638
         refine qk 55 F640 rfl (decide_eq_true hc634) fun _ F642 => ?_; clear F640
         refine qk 56 F642 rfl (decide_eq_true hc634) fun _ F644 => ?_; clear F642
         refine qk 57 F644 rfl (decide_eq_true hc634) fun _ F646 => ?_; clear F644
         refine qn 58 F646 rfl (unwanted_undef rfl rfl rfl F646 rfl) fun _ F648 => ?_; clear F646
         refine qn 59 F648 rfl (unwanted_undef rfl rfl rfl F648 rfl) fun _ F650 => ?_; clear F648
         refine qk 60 F650 rfl (decide_eq_true hc634) fun _ F652 => ?_; clear F650
         refine qp 61 (.bool true) F652 rfl rfl (fun W => (rn_pickT (c_true F652 rfl (decide_eq_true hc634)) rfl)) fun _ F654 => ?_; clear F652
         refine any_nil (by decide +kernel) ?_
         refine hK21 _ _ ?_
         clear hK21
         have F655 := (((((F654.nil.c F654 72 rfl).c F654 5 rfl).c F654 4 rfl).c F654 1 rfl).c F654 0 rfl)
         clear F654
         refine wp_cond_true (c_true F655 rfl rfl) ?_
         refine wp_seq_k (fun K656 hK656 => ?_)
         refine wp_region_lit ?_
         refine qv 0 (.bool false) F655 rfl (rn_assign rfl) fun _ F658 => ?_; clear F655
         refine wpList_nil ?_
         refine hK656 _ _ ?_
         clear hK656
         refine wp_ret ?_
         refine ret_then ?_
         refine ret1 F658 rfl rfl ?_
         have hg := rgood_iff (k := k) hs hk
         have hno : ¬ goodS s k = true := fun h => by
          obtain ⟨hg1, hg2⟩ := hg.1 h
          omega
         exact ⟨congrArg (fun b => Ending.returned (.bool b)) (show false = goodS s k from (Bool.eq_false_iff.2 hno).symm), ((((((((Ext.refl w).trans hx24).trans hx35).trans hx174).trans hx182).trans hx305).trans hx315).trans hx419)⟩
        ·skip
         refine qp 52 (.slice A s.length c) F633 rfl (wanted_guard rfl rfl rfl F633 rfl (decide_eq_false hc634) rfl) (fun W => (rn_move (F633.get rfl))) fun _ F660 => ?_; clear F633
         refine qp 53 (.pointer (some ⟨b7, o8 + 10, none⟩)) F660 rfl (wanted_guard rfl rfl rfl F660 rfl (decide_eq_false hc634) rfl) (fun W => (rn_index1 Try.underlying35 inf5 ((F660.get rfl).trans (by rw [hA9])) rfl (by omega : (0 : Int) ≤ 10) (by omega : (10 : Int) < ((s.length : Nat) : Int)))) fun _ F662 => ?_; clear F660
         refine qs 54 (.int .u8 ((s.getD 10 0).toNat : Nat)) F662 rfl (wanted_guard rfl rfl rfl F662 rfl (decide_eq_false hc634) rfl) hS498 (fun W hW => (rn_load (isAgg_no Try.underlying5 rfl) (F662.get rfl) (Fl.cellAt (d31.ext hW) hA9 (byteVals_at (i := 10) (by omega))))) fun _ F664 => ?_; clear F662
         refine qp 55 (.int .u8 (((s.getD 10 0) % (2 : UInt8)).toNat : Nat)) F664 rfl (wanted_guard rfl rfl rfl F664 rfl (decide_eq_false hc634) rfl) (fun W => (rn_rem8 (a := (s.getD 10 0)) (b := (2 : UInt8)) (F664.get rfl) rfl (by decide))) fun _ F666 => ?_; clear F664
         refine qp 56 (.bool (decide (((((s.getD 10 0) % (2 : UInt8)).toNat : Nat) : Int) = (0 : Int)))) F666 rfl (wanted_guard rfl rfl rfl F666 rfl (decide_eq_false hc634) rfl) (fun W => (rn_eql (F666.get rfl) rfl)) fun _ F668 => ?_; clear F666
         refine qp 57 (.bool (decide (((((s.getD 10 0) % (2 : UInt8)).toNat : Nat) : Int) = (0 : Int)))) F668 rfl (wanted_guard rfl rfl rfl F668 rfl (decide_eq_false hc634) rfl) (fun W => (rn_move (F668.get rfl))) fun _ F670 => ?_; clear F668
         by_cases hc671 : ((((s.getD 10 0) % (2 : UInt8)).toNat : Nat) : Int) = (0 : Int)
         ·skip
          refine qp 58 (.int .i64 ((s.getD 11 0).toNat : Nat)) F670 rfl (wanted_guard rfl rfl rfl F670 rfl (decide_eq_true hc671) rfl) (fun W => (rn_move (F670.get rfl))) fun _ F673 => ?_; clear F670
          refine qp 59 (.bool (decide ((((s.getD 11 0).toNat : Nat) : Int) = (0 : Int)))) F673 rfl (wanted_guard rfl rfl rfl F673 rfl (decide_eq_true hc671) rfl) (fun W => (rn_eql (F673.get rfl) rfl)) fun _ F675 => ?_; clear F673
          refine qp 60 (.bool (decide ((((s.getD 11 0).toNat : Nat) : Int) = (0 : Int)))) F675 rfl (wanted_guard rfl rfl rfl F675 rfl (decide_eq_false hc634) rfl) (fun W => (rn_pickT (c_true F675 rfl (decide_eq_true hc671)) (F675.get rfl))) fun _ F677 => ?_; clear F675
          refine qp 61 (.bool (decide ((((s.getD 11 0).toNat : Nat) : Int) = (0 : Int)))) F677 rfl rfl (fun W => (rn_pickF (c_false F677 rfl (decide_eq_false hc634)) (F677.get rfl))) fun _ F679 => ?_; clear F677
          refine any_nil (by decide +kernel) ?_
          refine hK21 _ _ ?_
          clear hK21
          have F680 := (((((F679.nil.c F679 72 rfl).c F679 5 rfl).c F679 4 rfl).c F679 1 rfl).c F679 0 rfl)
          clear F679
          by_cases hc681 : (((s.getD 11 0).toNat : Nat) : Int) = (0 : Int)
          ·skip
           refine wp_cond_true (c_true F680 rfl (decide_eq_true hc681)) ?_
           refine wp_seq_k (fun K682 hK682 => ?_)
           refine wp_region_lit ?_
           refine qv 0 (.bool false) F680 rfl (rn_assign rfl) fun _ F684 => ?_; clear F680
           refine wpList_nil ?_
           refine hK682 _ _ ?_
           clear hK682
           refine wp_ret ?_
           refine ret_then ?_
           refine ret1 F684 rfl rfl ?_
           have hg := rgood_iff (k := k) hs hk
           have hno : ¬ goodS s k = true := fun h => by
            obtain ⟨hg1, hg2⟩ := hg.1 h
            omega
           exact ⟨congrArg (fun b => Ending.returned (.bool b)) (show false = goodS s k from (Bool.eq_false_iff.2 hno).symm), ((((((((Ext.refl w).trans hx24).trans hx35).trans hx174).trans hx182).trans hx305).trans hx315).trans hx419)⟩
          ·skip
           refine wp_cond_false (c_false F680 rfl (decide_eq_false hc681)) ?_
           refine wp_skip ?_
           refine hK20 _ _ ?_
           clear hK20
           refine wp_seq_k (fun K685 hK685 => ?_)
           refine wp_seq_k (fun K686 hK686 => ?_)
           refine wp_region_lit ?_
           refine qv 0 (.int .i64 ((s.getD 11 0).toNat : Nat)) F680 rfl (rn_move (F680.get rfl)) fun _ F688 => ?_; clear F680
           refine qv 1 (.int .i64 (12 + ((s.getD 11 0).toNat) : Nat)) F688 rfl (rn_addN (a := 12) (b := (s.getD 11 0).toNat) rfl (F688.get rfl) (by omega)) fun _ F690 => ?_; clear F688
           refine qv 2 (.int .i64 (12 + ((s.getD 11 0).toNat) : Nat)) F690 rfl (rn_assign (F690.get rfl)) fun _ F692 => ?_; clear F690
           refine wpList_nil ?_
           refine hK686 _ _ ?_
           clear hK686
           refine wp_block ?_
           refine wp_loop (fun a' W => ∃ (i : Nat), Sl 84 [(0, (.slice A s.length c)), (1, (.int .i64 (k : Nat))), (4, (.bool false)), (5, (.int .i64 ((s.getD 11 0).toNat : Nat))), (72, (.bool (decide ((((s.getD 11 0).toNat : Nat) : Int) = (0 : Int))))), (6, (.int .i64 (i : Nat)))] a' ∧ (12 + (s.getD 11 0).toNat ≤ i ∧ i ≤ 124) ∧ (∀ j, 12 + (s.getD 11 0).toNat ≤ j → j < i → s.getD j 0 = 0) ∧ Ext w W ∧ w418.heap.size ≤ W.heap.size) (fun a' _ => 124 - (intOf (a'.eval (.tmp 6))).toNat) ⟨12 + ((s.getD 11 0).toNat), ((((((F692.nil.cons (q_get F692 (t := 6) rfl (by first | rfl | (congr 1; omega) | (congr 1; done)))).cons (q_get F692 (t := 72) rfl rfl)).cons (q_get F692 (t := 5) rfl rfl)).cons (q_get F692 (t := 4) rfl rfl)).cons (q_get F692 (t := 1) rfl rfl)).cons (q_get F692 (t := 0) rfl rfl)), ⟨by omega, by omega⟩, (fun j h1 h2 => absurd h1 (by omega)), ((((((((Ext.refl w).trans hx24).trans hx35).trans hx174).trans hx182).trans hx305).trans hx315).trans hx419), (Nat.le_refl _)⟩ ?_
           clear F692
           rintro a693 w694 ⟨i, F695, hp697, hp698, hx696, hf699⟩
           have hL700 := F695
           have z701 := hx696.size
           refine wp_seq_k (fun K702 hK702 => ?_)
           refine wp_seq_k (fun K703 hK703 => ?_)
           refine wp_region_lit ?_
           refine qv 0 (.int .i64 (i : Nat)) F695 rfl (rn_move (F695.get rfl)) fun _ F705 => ?_; clear F695
           refine qv 1 (.bool (decide (((i : Nat) : Int) < (124 : Int)))) F705 rfl (rn_lss (F705.get rfl) rfl) fun _ F707 => ?_; clear F705
           refine wpList_nil ?_
           refine hK703 _ _ ?_
           clear hK703
           by_cases hc708 : ((i : Nat) : Int) < (124 : Int)
           ·skip
            refine wp_cond_true (c_true F707 rfl (decide_eq_true hc708)) ?_
            refine wp_skip ?_
            refine hK702 _ _ ?_
            clear hK702
            refine wp_seq_k (fun K709 hK709 => ?_)
            refine wp_block ?_
            refine wp_seq_k (fun K710 hK710 => ?_)
            refine wp_region_lit ?_
            refine qv 0 (.slice A s.length c) F707 rfl (rn_move (F707.get rfl)) fun _ F712 => ?_; clear F707
            refine qv 1 (.int .i64 (i : Nat)) F712 rfl (rn_move (F712.get rfl)) fun _ F714 => ?_; clear F712
            refine qv 2 (.pointer (some ⟨b7, o8 + i, none⟩)) F714 rfl (rn_index1 Try.underlying35 inf5 ((F714.get rfl).trans (by rw [hA9])) (F714.get rfl) (by omega : (0 : Int) ≤ (i : Nat)) (by omega : ((i : Nat) : Int) < ((s.length : Nat) : Int))) fun _ F716 => ?_; clear F714
            have d717 := (hc.ext hx696)
            refine qv 3 (.int .u8 ((s.getD i 0).toNat : Nat)) F716 rfl (rn_load (isAgg_no Try.underlying5 rfl) (F716.get rfl) (Fl.cellAt d717 hA9 (byteVals_at (i := i) (by omega)))) fun _ F719 => ?_; clear F716
            refine qv 4 (.bool (decide ((((s.getD i 0).toNat : Nat) : Int) ≠ (0 : Int)))) F719 rfl (rn_neq (F719.get rfl) rfl) fun _ F721 => ?_; clear F719
            refine wpList_nil ?_
            refine hK710 _ _ ?_
            clear hK710
            have F722 := ((((((((F721.nil.c F721 83 rfl).c F721 76 rfl).c F721 6 rfl).c F721 72 rfl).c F721 5 rfl).c F721 4 rfl).c F721 1 rfl).c F721 0 rfl)
            clear F721
            by_cases hc723 : (((s.getD i 0).toNat : Nat) : Int) ≠ (0 : Int)
            ·skip
             refine wp_cond_true (c_true F722 rfl (decide_eq_true hc723)) ?_
             refine wp_seq_k (fun K724 hK724 => ?_)
             refine wp_region_lit ?_
             refine qv 0 (.bool false) F722 rfl (rn_assign rfl) fun _ F726 => ?_; clear F722
             refine wpList_nil ?_
             refine hK724 _ _ ?_
             clear hK724
             refine wp_ret ?_
             refine ret_block ?_
             refine ret_then ?_
             refine ret_then ?_
             refine ret_block ?_
             refine ret_then ?_
             refine ret1 F726 rfl rfl ?_
             have hg := rgood_iff (k := k) hs hk
             have hno : ¬ goodS s k = true := fun h => by
              obtain ⟨hg1, hg2⟩ := hg.1 h
              have : (s.getD i 0).toNat = 0 := by rw [hg2 i (by omega) (by omega)]; rfl
              omega
             exact ⟨congrArg (fun b => Ending.returned (.bool b)) (show false = goodS s k from (Bool.eq_false_iff.2 hno).symm), ((Ext.refl w).trans hx696)⟩
            ·skip
             refine wp_cond_false (c_false F722 rfl (decide_eq_false hc723)) ?_
             refine wp_skip ?_
             refine hK709 _ _ ?_
             clear hK709
             refine wp_region_lit ?_
             refine qv 0 (.int .i64 (i : Nat)) F722 rfl (rn_move (F722.get rfl)) fun _ F728 => ?_; clear F722
             refine qv 1 (.int .i64 (i + 1 : Nat)) F728 rfl (rn_addN (a := i) (b := 1) (F728.get rfl) rfl (by omega)) fun _ F730 => ?_; clear F728
             refine qv 2 (.int .i64 (i + 1 : Nat)) F730 rfl (rn_assign (F730.get rfl)) fun _ F732 => ?_; clear F730
             refine wpList_nil ?_
             refine ⟨⟨(i + 1), ((((((F732.nil.cons (q_get F732 (t := 6) rfl (by first | rfl | (congr 1; omega) | (congr 1; done)))).cons (q_get F732 (t := 72) rfl rfl)).cons (q_get F732 (t := 5) rfl rfl)).cons (q_get F732 (t := 4) rfl rfl)).cons (q_get F732 (t := 1) rfl rfl)).cons (q_get F732 (t := 0) rfl rfl)), ⟨by omega, by omega⟩, (pad_step hp698 (by have := of_decide_eq_false (decide_eq_false hc723); omega)), ((Ext.refl w).trans hx696), (by omega)⟩, ?_⟩
             rw [F732.get (t := 6) rfl, hL700.get (t := 6) rfl]; simp [intOf] <;> omega
           ·skip
            refine wp_cond_false (c_false F707 rfl (decide_eq_false hc708)) ?_
            refine wp_exit ?_
            refine exit_then ?_
            refine exit_then ?_
            refine exit_here ?_
            refine hK685 _ _ ?_
            clear hK685
            refine wp_seq_k (fun K733 hK733 => ?_)
            refine wp_region_lit ?_
            refine qv 0 (.bool true) F707 rfl (rn_assign rfl) fun _ F735 => ?_; clear F707
            refine wpList_nil ?_
            refine hK733 _ _ ?_
            clear hK733
            refine wp_ret ?_
            refine ret1 F735 rfl rfl ?_
            have hg := rgood_iff (k := k) hs hk
            exact ⟨congrArg (fun b => Ending.returned (.bool b)) (show true = goodS s k from (hg.2 ⟨by first | omega | (simp only [] ; omega), fun j h1 h2 => hp698 j h1 (by omega)⟩).symm), ((Ext.refl w).trans hx696)⟩
         ·skip
          refine qk 58 F670 rfl (decide_eq_false hc671) fun _ F737 => ?_; clear F670
          refine qk 59 F737 rfl (decide_eq_false hc671) fun _ F739 => ?_; clear F737
          refine qp 60 (.bool false) F739 rfl (wanted_guard rfl rfl rfl F739 rfl (decide_eq_false hc634) rfl) (fun W => (rn_pickF (c_false F739 rfl (decide_eq_false hc671)) rfl)) fun _ F741 => ?_; clear F739
          refine qp 61 (.bool false) F741 rfl rfl (fun W => (rn_pickF (c_false F741 rfl (decide_eq_false hc634)) (F741.get rfl))) fun _ F743 => ?_; clear F741
          refine any_nil (by decide +kernel) ?_
          refine hK21 _ _ ?_
          clear hK21
          have F744 := (((((F743.nil.c F743 72 rfl).c F743 5 rfl).c F743 4 rfl).c F743 1 rfl).c F743 0 rfl)
          clear F743
          refine wp_cond_false (c_false F744 rfl rfl) ?_
          refine wp_skip ?_
          refine hK20 _ _ ?_
          clear hK20
          refine wp_seq_k (fun K745 hK745 => ?_)
          refine wp_seq_k (fun K746 hK746 => ?_)
          refine wp_region_lit ?_
          refine qv 0 (.int .i64 ((s.getD 11 0).toNat : Nat)) F744 rfl (rn_move (F744.get rfl)) fun _ F748 => ?_; clear F744
          refine qv 1 (.int .i64 (12 + ((s.getD 11 0).toNat) : Nat)) F748 rfl (rn_addN (a := 12) (b := (s.getD 11 0).toNat) rfl (F748.get rfl) (by omega)) fun _ F750 => ?_; clear F748
          refine qv 2 (.int .i64 (12 + ((s.getD 11 0).toNat) : Nat)) F750 rfl (rn_assign (F750.get rfl)) fun _ F752 => ?_; clear F750
          refine wpList_nil ?_
          refine hK746 _ _ ?_
          clear hK746
          refine wp_block ?_
          refine wp_loop (fun a' W => ∃ (i : Nat), Sl 84 [(0, (.slice A s.length c)), (1, (.int .i64 (k : Nat))), (4, (.bool false)), (5, (.int .i64 ((s.getD 11 0).toNat : Nat))), (72, (.bool false)), (6, (.int .i64 (i : Nat)))] a' ∧ (12 + (s.getD 11 0).toNat ≤ i ∧ i ≤ 124) ∧ (∀ j, 12 + (s.getD 11 0).toNat ≤ j → j < i → s.getD j 0 = 0) ∧ Ext w W ∧ w418.heap.size ≤ W.heap.size) (fun a' _ => 124 - (intOf (a'.eval (.tmp 6))).toNat) ⟨12 + ((s.getD 11 0).toNat), ((((((F752.nil.cons (q_get F752 (t := 6) rfl (by first | rfl | (congr 1; omega) | (congr 1; done)))).cons (q_get F752 (t := 72) rfl rfl)).cons (q_get F752 (t := 5) rfl rfl)).cons (q_get F752 (t := 4) rfl rfl)).cons (q_get F752 (t := 1) rfl rfl)).cons (q_get F752 (t := 0) rfl rfl)), ⟨by omega, by omega⟩, (fun j h1 h2 => absurd h1 (by omega)), ((((((((Ext.refl w).trans hx24).trans hx35).trans hx174).trans hx182).trans hx305).trans hx315).trans hx419), (Nat.le_refl _)⟩ ?_
          clear F752
          rintro a753 w754 ⟨i, F755, hp757, hp758, hx756, hf759⟩
          have hL760 := F755
          have z761 := hx756.size
          refine wp_seq_k (fun K762 hK762 => ?_)
          refine wp_seq_k (fun K763 hK763 => ?_)
          refine wp_region_lit ?_
          refine qv 0 (.int .i64 (i : Nat)) F755 rfl (rn_move (F755.get rfl)) fun _ F765 => ?_; clear F755
          refine qv 1 (.bool (decide (((i : Nat) : Int) < (124 : Int)))) F765 rfl (rn_lss (F765.get rfl) rfl) fun _ F767 => ?_; clear F765
          refine wpList_nil ?_
          refine hK763 _ _ ?_
          clear hK763
          by_cases hc768 : ((i : Nat) : Int) < (124 : Int)
          ·skip
           refine wp_cond_true (c_true F767 rfl (decide_eq_true hc768)) ?_
           refine wp_skip ?_
           refine hK762 _ _ ?_
           clear hK762
           refine wp_seq_k (fun K769 hK769 => ?_)
           refine wp_block ?_
           refine wp_seq_k (fun K770 hK770 => ?_)
           refine wp_region_lit ?_
           refine qv 0 (.slice A s.length c) F767 rfl (rn_move (F767.get rfl)) fun _ F772 => ?_; clear F767
           refine qv 1 (.int .i64 (i : Nat)) F772 rfl (rn_move (F772.get rfl)) fun _ F774 => ?_; clear F772
           refine qv 2 (.pointer (some ⟨b7, o8 + i, none⟩)) F774 rfl (rn_index1 Try.underlying35 inf5 ((F774.get rfl).trans (by rw [hA9])) (F774.get rfl) (by omega : (0 : Int) ≤ (i : Nat)) (by omega : ((i : Nat) : Int) < ((s.length : Nat) : Int))) fun _ F776 => ?_; clear F774
           have d777 := (hc.ext hx756)
           refine qv 3 (.int .u8 ((s.getD i 0).toNat : Nat)) F776 rfl (rn_load (isAgg_no Try.underlying5 rfl) (F776.get rfl) (Fl.cellAt d777 hA9 (byteVals_at (i := i) (by omega)))) fun _ F779 => ?_; clear F776
           refine qv 4 (.bool (decide ((((s.getD i 0).toNat : Nat) : Int) ≠ (0 : Int)))) F779 rfl (rn_neq (F779.get rfl) rfl) fun _ F781 => ?_; clear F779
           refine wpList_nil ?_
           refine hK770 _ _ ?_
           clear hK770
           have F782 := ((((((((F781.nil.c F781 83 rfl).c F781 76 rfl).c F781 6 rfl).c F781 72 rfl).c F781 5 rfl).c F781 4 rfl).c F781 1 rfl).c F781 0 rfl)
           clear F781
           by_cases hc783 : (((s.getD i 0).toNat : Nat) : Int) ≠ (0 : Int)
           ·skip
            refine wp_cond_true (c_true F782 rfl (decide_eq_true hc783)) ?_
            refine wp_seq_k (fun K784 hK784 => ?_)
            refine wp_region_lit ?_
            refine qv 0 (.bool false) F782 rfl (rn_assign rfl) fun _ F786 => ?_; clear F782
            refine wpList_nil ?_
            refine hK784 _ _ ?_
            clear hK784
            refine wp_ret ?_
            refine ret_block ?_
            refine ret_then ?_
            refine ret_then ?_
            refine ret_block ?_
            refine ret_then ?_
            refine ret1 F786 rfl rfl ?_
            have hg := rgood_iff (k := k) hs hk
            have hno : ¬ goodS s k = true := fun h => by
             obtain ⟨hg1, hg2⟩ := hg.1 h
             have : (s.getD i 0).toNat = 0 := by rw [hg2 i (by omega) (by omega)]; rfl
             omega
            exact ⟨congrArg (fun b => Ending.returned (.bool b)) (show false = goodS s k from (Bool.eq_false_iff.2 hno).symm), ((Ext.refl w).trans hx756)⟩
           ·skip
            refine wp_cond_false (c_false F782 rfl (decide_eq_false hc783)) ?_
            refine wp_skip ?_
            refine hK769 _ _ ?_
            clear hK769
            refine wp_region_lit ?_
            refine qv 0 (.int .i64 (i : Nat)) F782 rfl (rn_move (F782.get rfl)) fun _ F788 => ?_; clear F782
            refine qv 1 (.int .i64 (i + 1 : Nat)) F788 rfl (rn_addN (a := i) (b := 1) (F788.get rfl) rfl (by omega)) fun _ F790 => ?_; clear F788
            refine qv 2 (.int .i64 (i + 1 : Nat)) F790 rfl (rn_assign (F790.get rfl)) fun _ F792 => ?_; clear F790
            refine wpList_nil ?_
            refine ⟨⟨(i + 1), ((((((F792.nil.cons (q_get F792 (t := 6) rfl (by first | rfl | (congr 1; omega) | (congr 1; done)))).cons (q_get F792 (t := 72) rfl rfl)).cons (q_get F792 (t := 5) rfl rfl)).cons (q_get F792 (t := 4) rfl rfl)).cons (q_get F792 (t := 1) rfl rfl)).cons (q_get F792 (t := 0) rfl rfl)), ⟨by omega, by omega⟩, (pad_step hp758 (by have := of_decide_eq_false (decide_eq_false hc783); omega)), ((Ext.refl w).trans hx756), (by omega)⟩, ?_⟩
            rw [F792.get (t := 6) rfl, hL760.get (t := 6) rfl]; simp [intOf] <;> omega
          ·skip
           refine wp_cond_false (c_false F767 rfl (decide_eq_false hc768)) ?_
           refine wp_exit ?_
           refine exit_then ?_
           refine exit_then ?_
           refine exit_here ?_
           refine hK745 _ _ ?_
           clear hK745
           refine wp_seq_k (fun K793 hK793 => ?_)
           refine wp_region_lit ?_
           refine qv 0 (.bool true) F767 rfl (rn_assign rfl) fun _ F795 => ?_; clear F767
           refine wpList_nil ?_
           refine hK793 _ _ ?_
           clear hK793
           refine wp_ret ?_
           refine ret1 F795 rfl rfl ?_
           have hg := rgood_iff (k := k) hs hk
           exact ⟨congrArg (fun b => Ending.returned (.bool b)) (show true = goodS s k from (hg.2 ⟨by first | omega | (simp only [] ; omega), fun j h1 h2 => hp758 j h1 (by omega)⟩).symm), ((Ext.refl w).trans hx756)⟩
       ·skip
        refine qk 47 F622 rfl (decide_eq_false hc623) fun _ F797 => ?_; clear F622
        refine qk 48 F797 rfl (decide_eq_false hc623) fun _ F799 => ?_; clear F797
        refine qp 49 (.bool false) F799 rfl (wanted_guard rfl rfl rfl F799 rfl (decide_eq_false hc568) rfl) (fun W => (rn_pickF (c_false F799 rfl (decide_eq_false hc623)) rfl)) fun _ F801 => ?_; clear F799
        refine qp 50 (.bool false) F801 rfl rfl (fun W => (rn_pickF (c_false F801 rfl (decide_eq_false hc568)) (F801.get rfl))) fun _ F803 => ?_; clear F801
        refine qp 51 (.bool false) F803 rfl rfl (fun W => (rn_move (F803.get rfl))) fun _ F805 => ?_; clear F803
        refine qp 52 (.slice A s.length c) F805 rfl (wanted_guard rfl rfl rfl F805 rfl rfl rfl) (fun W => (rn_move (F805.get rfl))) fun _ F807 => ?_; clear F805
        refine qp 53 (.pointer (some ⟨b7, o8 + 10, none⟩)) F807 rfl (wanted_guard rfl rfl rfl F807 rfl rfl rfl) (fun W => (rn_index1 Try.underlying35 inf5 ((F807.get rfl).trans (by rw [hA9])) rfl (by omega : (0 : Int) ≤ 10) (by omega : (10 : Int) < ((s.length : Nat) : Int)))) fun _ F809 => ?_; clear F807
        refine qs 54 (.int .u8 ((s.getD 10 0).toNat : Nat)) F809 rfl (wanted_guard rfl rfl rfl F809 rfl rfl rfl) hS498 (fun W hW => (rn_load (isAgg_no Try.underlying5 rfl) (F809.get rfl) (Fl.cellAt (d31.ext hW) hA9 (byteVals_at (i := 10) (by omega))))) fun _ F811 => ?_; clear F809
        refine qp 55 (.int .u8 (((s.getD 10 0) % (2 : UInt8)).toNat : Nat)) F811 rfl (wanted_guard rfl rfl rfl F811 rfl rfl rfl) (fun W => (rn_rem8 (a := (s.getD 10 0)) (b := (2 : UInt8)) (F811.get rfl) rfl (by decide))) fun _ F813 => ?_; clear F811
        refine qp 56 (.bool (decide (((((s.getD 10 0) % (2 : UInt8)).toNat : Nat) : Int) = (0 : Int)))) F813 rfl (wanted_guard rfl rfl rfl F813 rfl rfl rfl) (fun W => (rn_eql (F813.get rfl) rfl)) fun _ F815 => ?_; clear F813
        refine qp 57 (.bool (decide (((((s.getD 10 0) % (2 : UInt8)).toNat : Nat) : Int) = (0 : Int)))) F815 rfl (wanted_guard rfl rfl rfl F815 rfl rfl rfl) (fun W => (rn_move (F815.get rfl))) fun _ F817 => ?_; clear F815
        by_cases hc818 : ((((s.getD 10 0) % (2 : UInt8)).toNat : Nat) : Int) = (0 : Int)
        ·skip
         refine qp 58 (.int .i64 ((s.getD 11 0).toNat : Nat)) F817 rfl (wanted_guard rfl rfl rfl F817 rfl (decide_eq_true hc818) rfl) (fun W => (rn_move (F817.get rfl))) fun _ F820 => ?_; clear F817
         refine qp 59 (.bool (decide ((((s.getD 11 0).toNat : Nat) : Int) = (0 : Int)))) F820 rfl (wanted_guard rfl rfl rfl F820 rfl (decide_eq_true hc818) rfl) (fun W => (rn_eql (F820.get rfl) rfl)) fun _ F822 => ?_; clear F820
         refine qp 60 (.bool (decide ((((s.getD 11 0).toNat : Nat) : Int) = (0 : Int)))) F822 rfl (wanted_guard rfl rfl rfl F822 rfl rfl rfl) (fun W => (rn_pickT (c_true F822 rfl (decide_eq_true hc818)) (F822.get rfl))) fun _ F824 => ?_; clear F822
         refine qp 61 (.bool (decide ((((s.getD 11 0).toNat : Nat) : Int) = (0 : Int)))) F824 rfl rfl (fun W => (rn_pickF (c_false F824 rfl rfl) (F824.get rfl))) fun _ F826 => ?_; clear F824
         refine any_nil (by decide +kernel) ?_
         refine hK21 _ _ ?_
         clear hK21
         have F827 := (((((F826.nil.c F826 72 rfl).c F826 5 rfl).c F826 4 rfl).c F826 1 rfl).c F826 0 rfl)
         clear F826
         by_cases hc828 : (((s.getD 11 0).toNat : Nat) : Int) = (0 : Int)
         ·skip
          refine wp_cond_true (c_true F827 rfl (decide_eq_true hc828)) ?_
          refine wp_seq_k (fun K829 hK829 => ?_)
          refine wp_region_lit ?_
          refine qv 0 (.bool false) F827 rfl (rn_assign rfl) fun _ F831 => ?_; clear F827
          refine wpList_nil ?_
          refine hK829 _ _ ?_
          clear hK829
          refine wp_ret ?_
          refine ret_then ?_
          refine ret1 F831 rfl rfl ?_
          have hg := rgood_iff (k := k) hs hk
          have hno : ¬ goodS s k = true := fun h => by
           obtain ⟨hg1, hg2⟩ := hg.1 h
           omega
          exact ⟨congrArg (fun b => Ending.returned (.bool b)) (show false = goodS s k from (Bool.eq_false_iff.2 hno).symm), ((((((((Ext.refl w).trans hx24).trans hx35).trans hx174).trans hx182).trans hx305).trans hx315).trans hx419)⟩
         ·skip
          refine wp_cond_false (c_false F827 rfl (decide_eq_false hc828)) ?_
          refine wp_skip ?_
          refine hK20 _ _ ?_
          clear hK20
          refine wp_seq_k (fun K832 hK832 => ?_)
          refine wp_seq_k (fun K833 hK833 => ?_)
          refine wp_region_lit ?_
          refine qv 0 (.int .i64 ((s.getD 11 0).toNat : Nat)) F827 rfl (rn_move (F827.get rfl)) fun _ F835 => ?_; clear F827
          refine qv 1 (.int .i64 (12 + ((s.getD 11 0).toNat) : Nat)) F835 rfl (rn_addN (a := 12) (b := (s.getD 11 0).toNat) rfl (F835.get rfl) (by omega)) fun _ F837 => ?_; clear F835
          refine qv 2 (.int .i64 (12 + ((s.getD 11 0).toNat) : Nat)) F837 rfl (rn_assign (F837.get rfl)) fun _ F839 => ?_; clear F837
          refine wpList_nil ?_
          refine hK833 _ _ ?_
          clear hK833
          refine wp_block ?_
          refine wp_loop (fun a' W => ∃ (i : Nat), Sl 84 [(0, (.slice A s.length c)), (1, (.int .i64 (k : Nat))), (4, (.bool false)), (5, (.int .i64 ((s.getD 11 0).toNat : Nat))), (72, (.bool (decide ((((s.getD 11 0).toNat : Nat) : Int) = (0 : Int))))), (6, (.int .i64 (i : Nat)))] a' ∧ (12 + (s.getD 11 0).toNat ≤ i ∧ i ≤ 124) ∧ (∀ j, 12 + (s.getD 11 0).toNat ≤ j → j < i → s.getD j 0 = 0) ∧ Ext w W ∧ w418.heap.size ≤ W.heap.size) (fun a' _ => 124 - (intOf (a'.eval (.tmp 6))).toNat) ⟨12 + ((s.getD 11 0).toNat), ((((((F839.nil.cons (q_get F839 (t := 6) rfl (by first | rfl | (congr 1; omega) | (congr 1; done)))).cons (q_get F839 (t := 72) rfl rfl)).cons (q_get F839 (t := 5) rfl rfl)).cons (q_get F839 (t := 4) rfl rfl)).cons (q_get F839 (t := 1) rfl rfl)).cons (q_get F839 (t := 0) rfl rfl)), ⟨by omega, by omega⟩, (fun j h1 h2 => absurd h1 (by omega)), ((((((((Ext.refl w).trans hx24).trans hx35).trans hx174).trans hx182).trans hx305).trans hx315).trans hx419), (Nat.le_refl _)⟩ ?_
          clear F839
          rintro a840 w841 ⟨i, F842, hp844, hp845, hx843, hf846⟩
          have hL847 := F842
          have z848 := hx843.size
          refine wp_seq_k (fun K849 hK849 => ?_)
          refine wp_seq_k (fun K850 hK850 => ?_)
          refine wp_region_lit ?_
          refine qv 0 (.int .i64 (i : Nat)) F842 rfl (rn_move (F842.get rfl)) fun _ F852 => ?_; clear F842
          refine qv 1 (.bool (decide (((i : Nat) : Int) < (124 : Int)))) F852 rfl (rn_lss (F852.get rfl) rfl) fun _ F854 => ?_; clear F852
          refine wpList_nil ?_
          refine hK850 _ _ ?_
          clear hK850
          by_cases hc855 : ((i : Nat) : Int) < (124 : Int)
          ·skip
           refine wp_cond_true (c_true F854 rfl (decide_eq_true hc855)) ?_
           refine wp_skip ?_
           refine hK849 _ _ ?_
           clear hK849
           refine wp_seq_k (fun K856 hK856 => ?_)
           refine wp_block ?_
           refine wp_seq_k (fun K857 hK857 => ?_)
           refine wp_region_lit ?_
           refine qv 0 (.slice A s.length c) F854 rfl (rn_move (F854.get rfl)) fun _ F859 => ?_; clear F854
           refine qv 1 (.int .i64 (i : Nat)) F859 rfl (rn_move (F859.get rfl)) fun _ F861 => ?_; clear F859
           refine qv 2 (.pointer (some ⟨b7, o8 + i, none⟩)) F861 rfl (rn_index1 Try.underlying35 inf5 ((F861.get rfl).trans (by rw [hA9])) (F861.get rfl) (by omega : (0 : Int) ≤ (i : Nat)) (by omega : ((i : Nat) : Int) < ((s.length : Nat) : Int))) fun _ F863 => ?_; clear F861
           have d864 := (hc.ext hx843)
           refine qv 3 (.int .u8 ((s.getD i 0).toNat : Nat)) F863 rfl (rn_load (isAgg_no Try.underlying5 rfl) (F863.get rfl) (Fl.cellAt d864 hA9 (byteVals_at (i := i) (by omega)))) fun _ F866 => ?_; clear F863
           refine qv 4 (.bool (decide ((((s.getD i 0).toNat : Nat) : Int) ≠ (0 : Int)))) F866 rfl (rn_neq (F866.get rfl) rfl) fun _ F868 => ?_; clear F866
           refine wpList_nil ?_
           refine hK857 _ _ ?_
           clear hK857
           have F869 := ((((((((F868.nil.c F868 83 rfl).c F868 76 rfl).c F868 6 rfl).c F868 72 rfl).c F868 5 rfl).c F868 4 rfl).c F868 1 rfl).c F868 0 rfl)
           clear F868
           by_cases hc870 : (((s.getD i 0).toNat : Nat) : Int) ≠ (0 : Int)
           ·skip
            refine wp_cond_true (c_true F869 rfl (decide_eq_true hc870)) ?_
            refine wp_seq_k (fun K871 hK871 => ?_)
            refine wp_region_lit ?_
            refine qv 0 (.bool false) F869 rfl (rn_assign rfl) fun _ F873 => ?_; clear F869
            refine wpList_nil ?_
            refine hK871 _ _ ?_
            clear hK871
            refine wp_ret ?_
            refine ret_block ?_
            refine ret_then ?_
            refine ret_then ?_
            refine ret_block ?_
            refine ret_then ?_
            refine ret1 F873 rfl rfl ?_
            have hg := rgood_iff (k := k) hs hk
            have hno : ¬ goodS s k = true := fun h => by
             obtain ⟨hg1, hg2⟩ := hg.1 h
             have : (s.getD i 0).toNat = 0 := by rw [hg2 i (by omega) (by omega)]; rfl
             omega
            exact ⟨congrArg (fun b => Ending.returned (.bool b)) (show false = goodS s k from (Bool.eq_false_iff.2 hno).symm), ((Ext.refl w).trans hx843)⟩
           ·skip
            refine wp_cond_false (c_false F869 rfl (decide_eq_false hc870)) ?_
            refine wp_skip ?_
            refine hK856 _ _ ?_
            clear hK856
            refine wp_region_lit ?_
            refine qv 0 (.int .i64 (i : Nat)) F869 rfl (rn_move (F869.get rfl)) fun _ F875 => ?_; clear F869
            refine qv 1 (.int .i64 (i + 1 : Nat)) F875 rfl (rn_addN (a := i) (b := 1) (F875.get rfl) rfl (by omega)) fun _ F877 => ?_; clear F875
            refine qv 2 (.int .i64 (i + 1 : Nat)) F877 rfl (rn_assign (F877.get rfl)) fun _ F879 => ?_; clear F877
            refine wpList_nil ?_
            refine ⟨⟨(i + 1), ((((((F879.nil.cons (q_get F879 (t := 6) rfl (by first | rfl | (congr 1; omega) | (congr 1; done)))).cons (q_get F879 (t := 72) rfl rfl)).cons (q_get F879 (t := 5) rfl rfl)).cons (q_get F879 (t := 4) rfl rfl)).cons (q_get F879 (t := 1) rfl rfl)).cons (q_get F879 (t := 0) rfl rfl)), ⟨by omega, by omega⟩, (pad_step hp845 (by have := of_decide_eq_false (decide_eq_false hc870); omega)), ((Ext.refl w).trans hx843), (by omega)⟩, ?_⟩
            rw [F879.get (t := 6) rfl, hL847.get (t := 6) rfl]; simp [intOf] <;> omega
          ·skip
           refine wp_cond_false (c_false F854 rfl (decide_eq_false hc855)) ?_
           refine wp_exit ?_
           refine exit_then ?_
           refine exit_then ?_
           refine exit_here ?_
           refine hK832 _ _ ?_
           clear hK832
           refine wp_seq_k (fun K880 hK880 => ?_)
           refine wp_region_lit ?_
           refine qv 0 (.bool true) F854 rfl (rn_assign rfl) fun _ F882 => ?_; clear F854
           refine wpList_nil ?_
           refine hK880 _ _ ?_
           clear hK880
           refine wp_ret ?_
           refine ret1 F882 rfl rfl ?_
           have hg := rgood_iff (k := k) hs hk
           exact ⟨congrArg (fun b => Ending.returned (.bool b)) (show true = goodS s k from (hg.2 ⟨by first | omega | (simp only [] ; omega), fun j h1 h2 => hp845 j h1 (by omega)⟩).symm), ((Ext.refl w).trans hx843)⟩
        ·skip
         refine qk 58 F817 rfl (decide_eq_false hc818) fun _ F884 => ?_; clear F817
         refine qk 59 F884 rfl (decide_eq_false hc818) fun _ F886 => ?_; clear F884
         refine qp 60 (.bool false) F886 rfl (wanted_guard rfl rfl rfl F886 rfl rfl rfl) (fun W => (rn_pickF (c_false F886 rfl (decide_eq_false hc818)) rfl)) fun _ F888 => ?_; clear F886
         refine qp 61 (.bool false) F888 rfl rfl (fun W => (rn_pickF (c_false F888 rfl rfl) (F888.get rfl))) fun _ F890 => ?_; clear F888
         refine any_nil (by decide +kernel) ?_
         refine hK21 _ _ ?_
         clear hK21
         have F891 := (((((F890.nil.c F890 72 rfl).c F890 5 rfl).c F890 4 rfl).c F890 1 rfl).c F890 0 rfl)
         clear F890
         refine wp_cond_false (c_false F891 rfl rfl) ?_
         refine wp_skip ?_
         refine hK20 _ _ ?_
         clear hK20
         refine wp_seq_k (fun K892 hK892 => ?_)
         refine wp_seq_k (fun K893 hK893 => ?_)
         refine wp_region_lit ?_
         refine qv 0 (.int .i64 ((s.getD 11 0).toNat : Nat)) F891 rfl (rn_move (F891.get rfl)) fun _ F895 => ?_; clear F891
         refine qv 1 (.int .i64 (12 + ((s.getD 11 0).toNat) : Nat)) F895 rfl (rn_addN (a := 12) (b := (s.getD 11 0).toNat) rfl (F895.get rfl) (by omega)) fun _ F897 => ?_; clear F895
         refine qv 2 (.int .i64 (12 + ((s.getD 11 0).toNat) : Nat)) F897 rfl (rn_assign (F897.get rfl)) fun _ F899 => ?_; clear F897
         refine wpList_nil ?_
         refine hK893 _ _ ?_
         clear hK893
         refine wp_block ?_
         refine wp_loop (fun a' W => ∃ (i : Nat), Sl 84 [(0, (.slice A s.length c)), (1, (.int .i64 (k : Nat))), (4, (.bool false)), (5, (.int .i64 ((s.getD 11 0).toNat : Nat))), (72, (.bool false)), (6, (.int .i64 (i : Nat)))] a' ∧ (12 + (s.getD 11 0).toNat ≤ i ∧ i ≤ 124) ∧ (∀ j, 12 + (s.getD 11 0).toNat ≤ j → j < i → s.getD j 0 = 0) ∧ Ext w W ∧ w418.heap.size ≤ W.heap.size) (fun a' _ => 124 - (intOf (a'.eval (.tmp 6))).toNat) ⟨12 + ((s.getD 11 0).toNat), ((((((F899.nil.cons (q_get F899 (t := 6) rfl (by first | rfl | (congr 1; omega) | (congr 1; done)))).cons (q_get F899 (t := 72) rfl rfl)).cons (q_get F899 (t := 5) rfl rfl)).cons (q_get F899 (t := 4) rfl rfl)).cons (q_get F899 (t := 1) rfl rfl)).cons (q_get F899 (t := 0) rfl rfl)), ⟨by omega, by omega⟩, (fun j h1 h2 => absurd h1 (by omega)), ((((((((Ext.refl w).trans hx24).trans hx35).trans hx174).trans hx182).trans hx305).trans hx315).trans hx419), (Nat.le_refl _)⟩ ?_
         clear F899
         rintro a900 w901 ⟨i, F902, hp904, hp905, hx903, hf906⟩
         have hL907 := F902
         have z908 := hx903.size
         refine wp_seq_k (fun K909 hK909 => ?_)
         refine wp_seq_k (fun K910 hK910 => ?_)
         refine wp_region_lit ?_
         refine qv 0 (.int .i64 (i : Nat)) F902 rfl (rn_move (F902.get rfl)) fun _ F912 => ?_; clear F902
         refine qv 1 (.bool (decide (((i : Nat) : Int) < (124 : Int)))) F912 rfl (rn_lss (F912.get rfl) rfl) fun _ F914 => ?_; clear F912
         refine wpList_nil ?_
         refine hK910 _ _ ?_
         clear hK910
         by_cases hc915 : ((i : Nat) : Int) < (124 : Int)
         ·skip
          refine wp_cond_true (c_true F914 rfl (decide_eq_true hc915)) ?_
          refine wp_skip ?_
          refine hK909 _ _ ?_
          clear hK909
          refine wp_seq_k (fun K916 hK916 => ?_)
          refine wp_block ?_
          refine wp_seq_k (fun K917 hK917 => ?_)
          refine wp_region_lit ?_
          refine qv 0 (.slice A s.length c) F914 rfl (rn_move (F914.get rfl)) fun _ F919 => ?_; clear F914
          refine qv 1 (.int .i64 (i : Nat)) F919 rfl (rn_move (F919.get rfl)) fun _ F921 => ?_; clear F919
          refine qv 2 (.pointer (some ⟨b7, o8 + i, none⟩)) F921 rfl (rn_index1 Try.underlying35 inf5 ((F921.get rfl).trans (by rw [hA9])) (F921.get rfl) (by omega : (0 : Int) ≤ (i : Nat)) (by omega : ((i : Nat) : Int) < ((s.length : Nat) : Int))) fun _ F923 => ?_; clear F921
          have d924 := (hc.ext hx903)
          refine qv 3 (.int .u8 ((s.getD i 0).toNat : Nat)) F923 rfl (rn_load (isAgg_no Try.underlying5 rfl) (F923.get rfl) (Fl.cellAt d924 hA9 (byteVals_at (i := i) (by omega)))) fun _ F926 => ?_; clear F923
          refine qv 4 (.bool (decide ((((s.getD i 0).toNat : Nat) : Int) ≠ (0 : Int)))) F926 rfl (rn_neq (F926.get rfl) rfl) fun _ F928 => ?_; clear F926
          refine wpList_nil ?_
          refine hK917 _ _ ?_
          clear hK917
          have F929 := ((((((((F928.nil.c F928 83 rfl).c F928 76 rfl).c F928 6 rfl).c F928 72 rfl).c F928 5 rfl).c F928 4 rfl).c F928 1 rfl).c F928 0 rfl)
          clear F928
          by_cases hc930 : (((s.getD i 0).toNat : Nat) : Int) ≠ (0 : Int)
          ·skip
           refine wp_cond_true (c_true F929 rfl (decide_eq_true hc930)) ?_
           refine wp_seq_k (fun K931 hK931 => ?_)
           refine wp_region_lit ?_
           refine qv 0 (.bool false) F929 rfl (rn_assign rfl) fun _ F933 => ?_; clear F929
           refine wpList_nil ?_
           refine hK931 _ _ ?_
           clear hK931
           refine wp_ret ?_
           refine ret_block ?_
           refine ret_then ?_
           refine ret_then ?_
           refine ret_block ?_
           refine ret_then ?_
           refine ret1 F933 rfl rfl ?_
           have hg := rgood_iff (k := k) hs hk
           have hno : ¬ goodS s k = true := fun h => by
            obtain ⟨hg1, hg2⟩ := hg.1 h
            have : (s.getD i 0).toNat = 0 := by rw [hg2 i (by omega) (by omega)]; rfl
            omega
           exact ⟨congrArg (fun b => Ending.returned (.bool b)) (show false = goodS s k from (Bool.eq_false_iff.2 hno).symm), ((Ext.refl w).trans hx903)⟩
          ·skip
           refine wp_cond_false (c_false F929 rfl (decide_eq_false hc930)) ?_
           refine wp_skip ?_
           refine hK916 _ _ ?_
           clear hK916
           refine wp_region_lit ?_
           refine qv 0 (.int .i64 (i : Nat)) F929 rfl (rn_move (F929.get rfl)) fun _ F935 => ?_; clear F929
           refine qv 1 (.int .i64 (i + 1 : Nat)) F935 rfl (rn_addN (a := i) (b := 1) (F935.get rfl) rfl (by omega)) fun _ F937 => ?_; clear F935
           refine qv 2 (.int .i64 (i + 1 : Nat)) F937 rfl (rn_assign (F937.get rfl)) fun _ F939 => ?_; clear F937
           refine wpList_nil ?_
           refine ⟨⟨(i + 1), ((((((F939.nil.cons (q_get F939 (t := 6) rfl (by first | rfl | (congr 1; omega) | (congr 1; done)))).cons (q_get F939 (t := 72) rfl rfl)).cons (q_get F939 (t := 5) rfl rfl)).cons (q_get F939 (t := 4) rfl rfl)).cons (q_get F939 (t := 1) rfl rfl)).cons (q_get F939 (t := 0) rfl rfl)), ⟨by omega, by omega⟩, (pad_step hp905 (by have := of_decide_eq_false (decide_eq_false hc930); omega)), ((Ext.refl w).trans hx903), (by omega)⟩, ?_⟩
           rw [F939.get (t := 6) rfl, hL907.get (t := 6) rfl]; simp [intOf] <;> omega
         ·skip
          refine wp_cond_false (c_false F914 rfl (decide_eq_false hc915)) ?_
          refine wp_exit ?_
          refine exit_then ?_
          refine exit_then ?_
          refine exit_here ?_
          refine hK892 _ _ ?_
          clear hK892
          refine wp_seq_k (fun K940 hK940 => ?_)
          refine wp_region_lit ?_
          refine qv 0 (.bool true) F914 rfl (rn_assign rfl) fun _ F942 => ?_; clear F914
          refine wpList_nil ?_
          refine hK940 _ _ ?_
          clear hK940
          refine wp_ret ?_
          refine ret1 F942 rfl rfl ?_
          have hg := rgood_iff (k := k) hs hk
          exact ⟨congrArg (fun b => Ending.returned (.bool b)) (show true = goodS s k from (hg.2 ⟨by first | omega | (simp only [] ; omega), fun j h1 h2 => hp905 j h1 (by omega)⟩).symm), ((Ext.refl w).trans hx903)⟩

theorem rgood_at {v : Value} {m : Nat} (l : List UInt8) (k : Nat) (w : World) (hf : Fl S w 1 v m (byteVals l)) (hs : m = 128) (hk : k < 65536) :
  Calls Try.prog 72 #[v, .int .i64 (k : Nat)] w (fun e w' => e = .returned (.bool (goodS l k)) ∧ Ext w w') := by
 have hm := hf.blen
 subst hm
 obtain ⟨A, c, rfl, _⟩ := hf.form
 exact rgood_any A c l k w hf hs hk

end Go.Proofs.Ytfmhnplkpohogaa
