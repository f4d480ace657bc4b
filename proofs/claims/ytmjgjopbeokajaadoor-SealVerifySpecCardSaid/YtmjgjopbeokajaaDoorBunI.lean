/- Several texts in one: SealG, SealH, SealI. -/
import Derived.Test.YtmjgjopbeokajaaDoorProg
import Derived.Test.YtmjgjopbeokajaaDoorBunH
import Derived.KernelRfl
import Derived.Test.YtmjgjopbeokajaaDoorBunA
import Derived.Test.YtmjgjopbeokajaaDoorBunB
namespace Go.Proofs.YtmjgjopbeokajaaDoor
open Go.RowKit

variable {S S' : Nat → Prop}

theorem rtwo_int (i : Int) (w : World) (h0 : 0 ≤ i) (h1 : i < 65536) : Calls Tryd.prog 49 #[.int .i64 i] w (fun e w' => ∃ A c, e = .returned (.slice A 2 c) ∧ Fl (fun b => w.heap.size ≤ b) w' 1 (.slice A 2 c) 2 (byteVals (two i.toNat)) ∧ Ext w w') := by
  obtain ⟨k, rfl⟩ : ∃ k : Nat, i = (k : Int) := ⟨i.toNat, by omega⟩
  exact rtwo_any k w (by omega)
def bitsUp (d : List UInt8) (k : Nat) : List Bool := bitsTo d k ++ List.replicate (64 - k) false
theorem bitsUp_len (d : List UInt8) {k : Nat} (h : k ≤ 64) : (bitsUp d k).length = 64 := by rw [bitsUp, List.length_append, bitsTo_len, List.length_replicate]; omega
theorem bitsUp_step {d : List UInt8} {k : Nat} {l : List Bool} {b : Bool} (h : k < 64) (hl : l = bitsUp d k) (hb : b = bitOf d k) : l.set k b = bitsUp d (k + 1) := by
  rw [hl, hb, bitsUp, bitsUp, List.set_append_right _ _ (by rw [bitsTo_len]; omega), bitsTo_len, Nat.sub_self, ← bitsTo_step, List.append_assoc, show 64 - k = (64 - (k + 1)) + 1 by omega, List.replicate_succ]
  rfl
theorem bitsUp_all (d : List UInt8) : bitsUp d 64 = bitsTo d 64 := by simp [bitsUp]
def bitsR (root : List UInt8) (i : Int) (msg : List UInt8) : List Bool := if i < 0 ∨ 4096 ≤ i then [] else bitsL root i.toNat msg
theorem bitsR_out {root : List UInt8} {i : Int} {msg : List UInt8} (h : i < 0 ∨ 4096 ≤ i) : bitsR root i msg = [] := by rw [bitsR, if_pos h]
theorem bitsR_in {root : List UInt8} {i : Int} {msg : List UInt8} (h : ¬ (i < 0 ∨ 4096 ≤ i)) : bitsR root i msg = bitsL root i.toNat msg := by rw [bitsR, if_neg h]
theorem Fl.blen2 {w : World} {v : Value} {n : Nat} {l : List Bool} (h : Fl S w 1 v n (boolVals l)) : l.length = n := by
  have := h.len; simp [boolVals] at this; omega

set_option maxRecDepth 100000 in
set_option maxHeartbeats 1000000 in
theorem signed_any (A : Option Addr) (c : Nat) (root : List UInt8) (i : Nat) (msg : List UInt8) (w : World) (hd : root.length = 32) (hf : Fl S w 1 (.slice A msg.length c) msg.length (byteVals msg)) (hG : Glob w) (hm : msg.length ≤ 4194304) (hi : i < 65536) :
    Calls Tryd.prog 33 #[.agg (byteVals root).toArray, .int .i64 (i : Nat), .slice A msg.length c] w (fun e w' => e = .returned (.agg (boolVals (bitsL root i msg)).toArray) ∧ Ext w w') := by
  have hc : Fl (Clip S w) w 1 (.slice A msg.length c) msg.length (byteVals msg) := hf.clip
  have hcc := (Fl.cel hc).2.1
  refine calls_enter (l := [(.agg (byteVals root).toArray), (.int .i64 (i : Nat)), (.slice A msg.length c)]) Tryd.func33 rfl rfl rfl (fun aA hF => ?_)
  refine wp_seq_k (fun K1 hK1 => ?_)
  refine wp_region_lit ?_
  refine wpl_op (i := 0) rfl (o_new (fun g => (.pointer (some ⟨g, 0, none⟩))) (byteVals root) 37 hF rfl rfl rfl rfl (rn_box (hF.get rfl) (box_arr _)) ?_)
  intro g2 w3 a8 F9 z6 z7 b4 hx5; clear hF
  refine wpl_op (i := 1) rfl (o_new (fun g => (.pointer (some ⟨g, 0, none⟩))) (boolVals (List.replicate 64 false)) 60 F9 rfl rfl rfl rfl (by kernel_rfl) ?_)
  intro g10 w11 a16 F17 z14 z15 b12 hx13; clear F9
  refine wpList_nil ?_
  refine hK1 _ _ ?_
  clear hK1
  refine wp_seq_k (fun K18 hK18 => ?_)
  have hx20 : ∃ W, w11.drew = W ∧ Ext w11 W := ⟨_, rfl, (Ext.refl _).drew⟩
  obtain ⟨w19, e21, hx20⟩ := hx20
  have z22 := hx20.size
  refine any_start (fun W => Ext w19 W ∧ Blk W g2 37 (byteVals root)) (fun i => i == 8) 9 #[false, false, false, false, false, false, false, false, false] rfl rfl rfl ?_
  rw [e21]; clear e21
  refine any_have (n1 := 1) (L1 := #[true, true, true, true, true, true, true, true, false]) (fun a' W => ∃ (g97 : Nat) (g49 : Nat) (A29 : Option Addr) (c30 : Nat), Sl 33 [(0, (.agg (byteVals root).toArray)), (1, (.int .i64 (i : Nat))), (2, (.slice A msg.length c)), (3, (.pointer (some ⟨g2, 0, none⟩))), (6, (.pointer (some ⟨g10, 0, none⟩))), (7, (.pointer (some ⟨g97, 0, none⟩))), (15, (.agg (byteVals (tagged ([109, 101, 115, 115, 97, 103, 101]) (root ++ (two i) ++ msg))).toArray))] a' ∧ Ext w19 W ∧ Blk W g49 22 [(.slice (some ⟨g2, 0, none⟩) 32 32), (.slice A29 2 c30), (.slice A msg.length c)] ∧ w19.heap.size ≤ g49 ∧ Blk W g97 37 (byteVals (List.replicate 32 0)) ∧ w19.heap.size ≤ g97 ∧ g49 ≠ g97 ∧ Fl (fun b => w19.heap.size ≤ b) W 1 (.slice A29 2 c30) 2 (byteVals (two i))) ?_ (fun st118 => ?_)
  · skip
    rintro a119 w120 ⟨g97, g49, A29, c30, F121, hx122, b123, z124, b125, z126, z127, hf128⟩
    clear F17
    have z129 := hx122.size
    have z130 := b123.lt
    have z131 := b125.lt
    have z132 := (Fl.cel hf128).2.1
    have z133 := Fl.blen hf128
    refine any_one (i := 8) (by decide +kernel) rfl ?_
    refine o_store (cells := (byteVals (tagged ([109, 101, 115, 115, 97, 103, 101]) (root ++ (two i) ++ msg)))) F121 rfl rfl rfl rfl (F121.get rfl) (F121.get rfl) b125 (inf37.trans (congrArg some (byteVals_len (tagged_len _ _)).symm)) ((byteVals_len (show List.length (List.replicate 32 0) = _ from List.length_replicate)).trans (byteVals_len (tagged_len _ _)).symm) (byteVals_one _) ?_
    intro w134 b135 hg136; have z137 := hg136.size
    refine ⟨fun h => absurd h (by decide), ?_⟩
    refine any_nil (by decide +kernel) ?_
    refine hK18 _ _ ?_
    clear hK18
    refine wp_seq_k (fun K138 hK138 => ?_)
    refine wp_seq_k (fun K139 hK139 => ?_)
    refine wp_region_lit ?_
    refine qv 0 (.int .i64 0) F121 rfl (rn_move rfl) fun _ F141 => ?_; clear F121
    refine wpList_nil ?_
    refine hK139 _ _ ?_
    clear hK139
    refine wp_block ?_
    have b142 := ((((b4.ext hx13).ext hx20).ext hx122).grownN hg136 (by omega))
    have b143 := (((b12.ext hx20).ext hx122).grownN hg136 (by omega))
    refine wp_loop (fun a' W => ∃ (k : Nat) (bb : List Bool), Sl 33 [(0, (.agg (byteVals root).toArray)), (1, (.int .i64 (i : Nat))), (2, (.slice A msg.length c)), (3, (.pointer (some ⟨g2, 0, none⟩))), (6, (.pointer (some ⟨g10, 0, none⟩))), (7, (.pointer (some ⟨g97, 0, none⟩))), (16, (.int .i64 (k : Nat)))] a' ∧ k ≤ 64 ∧ bb = bitsUp (tagged ([109, 101, 115, 115, 97, 103, 101]) (root ++ (two i) ++ msg)) k ∧ Ext w W ∧ Blk W g2 37 (byteVals root) ∧ Blk W g10 60 (boolVals bb) ∧ Blk W g97 37 (byteVals (tagged ([109, 101, 115, 115, 97, 103, 101]) (root ++ (two i) ++ msg))) ∧ w134.heap.size ≤ W.heap.size) (fun a' _ => 64 - (intOf (a'.eval (.tmp 16))).toNat) ⟨0, (List.replicate 64 false), (((((((F141.nil.cons (q_get F141 (t := 16) rfl (by first | rfl | (congr 1; omega) | (congr 1; done)))).cons (q_get F141 (t := 7) rfl rfl)).cons (q_get F141 (t := 6) rfl rfl)).cons (q_get F141 (t := 3) rfl rfl)).cons (q_get F141 (t := 2) rfl rfl)).cons (q_get F141 (t := 1) rfl rfl)).cons (q_get F141 (t := 0) rfl rfl)), (by omega), rfl, ((((((Ext.refl w).trans hx5).trans hx13).trans hx20).trans hx122).grownN hg136 (by omega)), b142, b143, b135, (Nat.le_refl _)⟩ ?_
    clear F141
    rintro a144 w145 ⟨k, bb, F146, hp148, hp149, hx147, b150, b151, b152, hf153⟩
    have hL154 := F146
    have z155 := hx147.size
    have z156 := b150.lt
    have z157 := b151.lt
    have z158 := b152.lt
    have hbl : bb.length = 64 := by rw [hp149]; exact bitsUp_len _ (by omega)
    refine wp_seq_k (fun K159 hK159 => ?_)
    refine wp_region_lit ?_
    refine qv 0 (.bool (decide (((k : Nat) : Int) < (64 : Int)))) F146 rfl (rn_lss (F146.get rfl) rfl) fun _ F161 => ?_; clear F146
    refine wpList_nil ?_
    refine hK159 _ _ ?_
    clear hK159
    refine wp_seq_k (fun K162 hK162 => ?_)
    by_cases hc163 : ((k : Nat) : Int) < (64 : Int)
    · skip
      refine wp_cond_true (c_true F161 rfl (decide_eq_true hc163)) ?_
      refine wp_skip ?_
      refine hK162 _ _ ?_
      clear hK162
      refine wp_seq_k (fun K164 hK164 => ?_)
      refine wp_block ?_
      refine wp_seq_k (fun K165 hK165 => ?_)
      refine wp_region_lit ?_
      refine qv 0 (.int .i64 (k : Nat)) F161 rfl (rn_move (F161.get rfl)) fun _ F167 => ?_; clear F161
      refine qv 1 (.int .i64 (k : Nat)) F167 rfl (rn_assign (F167.get rfl)) fun _ F169 => ?_; clear F167
      refine wpList_nil ?_
      refine hK165 _ _ ?_
      clear hK165
      refine wp_region_lit ?_
      refine qv 0 (.int .i64 (k : Nat)) F169 rfl (rn_move (F169.get rfl)) fun _ F171 => ?_; clear F169
      refine qv 1 (.int .i64 (k : Nat)) F171 rfl (rn_move (F171.get rfl)) fun _ F173 => ?_; clear F171
      refine qv 2 (.int .i64 (k / 8 : Nat)) F173 rfl (rn_quoN (a := k) (b := 8) (F173.get rfl) rfl (by omega) (by omega)) fun _ F175 => ?_; clear F173
      refine qv 3 (.pointer (some ⟨g97, 0 + (k / 8), none⟩)) F175 rfl (rn_indexArr Tryd.underlying37 inf5 (F175.get rfl) (F175.get rfl) (by omega : (0 : Int) ≤ (k / 8 : Nat)) (by omega : ((k / 8 : Nat) : Int) < ((32 : Nat) : Int))) fun _ F177 => ?_; clear F175
      refine qv 4 (.int .u8 (((tagged ([109, 101, 115, 115, 97, 103, 101]) (root ++ (two i) ++ msg)).getD (k / 8) 0).toNat : Nat)) F177 rfl (rn_load (isAgg_no Tryd.underlying5 rfl) (F177.get rfl) (blk_byte b152 (by omega) (by have := (show List.length (tagged ([109, 101, 115, 115, 97, 103, 101]) (root ++ (two i) ++ msg)) = _ from (tagged_len _ _)); omega))) fun _ F179 => ?_; clear F177
      refine qv 5 (.int .i64 (k : Nat)) F179 rfl (rn_move (F179.get rfl)) fun _ F181 => ?_; clear F179
      refine qv 6 (.int .i64 (k % 8 : Nat)) F181 rfl (rn_remN (a := k) (b := 8) (F181.get rfl) rfl (by omega)) fun _ F183 => ?_; clear F181
      refine qv 7 (.int .i64 (7 - (k % 8) : Nat)) F183 rfl (rn_subN (a := 7) (b := k % 8) rfl (F183.get rfl) (by omega) (by omega)) fun _ F185 => ?_; clear F183
      refine qv 8 (.int .u8 ((((tagged ([109, 101, 115, 115, 97, 103, 101]) (root ++ (two i) ++ msg)).getD (k / 8) 0) >>> UInt8.ofNat (7 - (k % 8))).toNat : Nat)) F185 rfl (rn_shr8 (a := ((tagged ([109, 101, 115, 115, 97, 103, 101]) (root ++ (two i) ++ msg)).getD (k / 8) 0)) (n := 7 - (k % 8)) (F185.get rfl) (F185.get rfl) (by omega)) fun _ F187 => ?_; clear F185
      refine qv 9 (.int .u8 (((((tagged ([109, 101, 115, 115, 97, 103, 101]) (root ++ (two i) ++ msg)).getD (k / 8) 0) >>> UInt8.ofNat (7 - (k % 8))) &&& (1 : UInt8)).toNat : Nat)) F187 rfl (rn_and8 (a := (((tagged ([109, 101, 115, 115, 97, 103, 101]) (root ++ (two i) ++ msg)).getD (k / 8) 0) >>> UInt8.ofNat (7 - (k % 8)))) (b := (1 : UInt8)) (F187.get rfl) rfl) fun _ F189 => ?_; clear F187
      refine qv 10 (.bool (decide (((((((tagged ([109, 101, 115, 115, 97, 103, 101]) (root ++ (two i) ++ msg)).getD (k / 8) 0) >>> UInt8.ofNat (7 - (k % 8))) &&& (1 : UInt8)).toNat : Nat) : Int) = (1 : Int)))) F189 rfl (rn_eql (F189.get rfl) rfl) fun _ F191 => ?_; clear F189
      refine qv 11 (.pointer (some ⟨g10, 0 + k, none⟩)) F191 rfl (rn_indexArr Tryd.underlying60 inf4 (F191.get rfl) (F191.get rfl) (by omega : (0 : Int) ≤ (k : Nat)) (by omega : ((k : Nat) : Int) < ((64 : Nat) : Int))) fun _ F193 => ?_; clear F191
      refine wpl_op (i := 12) rfl (o_store1 (new := (boolVals (bb.set k (decide (((((((tagged ([109, 101, 115, 115, 97, 103, 101]) (root ++ (two i) ++ msg)).getD (k / 8) 0) >>> UInt8.ofNat (7 - (k % 8))) &&& (1 : UInt8)).toNat : Nat) : Int) = (1 : Int)))))) F193 rfl rfl rfl rfl (F193.get rfl) (F193.get rfl) b151 inf4 (by rw [boolVals_len hbl]; omega) rfl (boolVals_set (by omega)) ?_)
      intro w194 b195 hg196; have z197 := hg196.size
      refine wpList_nil ?_
      refine hK164 _ _ ?_
      clear hK164
      have F198 := (((((((((F193.nil.c F193 8 rfl).c F193 17 rfl).c F193 16 rfl).c F193 7 rfl).c F193 6 rfl).c F193 3 rfl).c F193 2 rfl).c F193 1 rfl).c F193 0 rfl)
      clear F193
      refine wp_region_lit ?_
      refine qv 0 (.int .i64 (k + 1 : Nat)) F198 rfl (rn_addN (a := k) (b := 1) (F198.get rfl) rfl (by omega)) fun _ F200 => ?_; clear F198
      refine qv 1 (.int .i64 (k + 1 : Nat)) F200 rfl (rn_move (F200.get rfl)) fun _ F202 => ?_; clear F200
      refine wpList_nil ?_
      have b203 := (b150.grownN hg196 (by omega))
      have b204 := (b152.grownN hg196 (by omega))
      refine ⟨⟨(k + 1), bb.set k (decide (((((((tagged ([109, 101, 115, 115, 97, 103, 101]) (root ++ (two i) ++ msg)).getD (k / 8) 0) >>> UInt8.ofNat (7 - (k % 8))) &&& (1 : UInt8)).toNat : Nat) : Int) = (1 : Int))), (((((((F202.nil.cons (q_get F202 (t := 16) rfl (by first | rfl | (congr 1; omega) | (congr 1; done)))).cons (q_get F202 (t := 7) rfl rfl)).cons (q_get F202 (t := 6) rfl rfl)).cons (q_get F202 (t := 3) rfl rfl)).cons (q_get F202 (t := 2) rfl rfl)).cons (q_get F202 (t := 1) rfl rfl)).cons (q_get F202 (t := 0) rfl rfl)), (by omega), (bitsUp_step (by omega) hp149 rfl), (((Ext.refl w).trans hx147).grownN hg196 (by omega)), b203, b195, b204, (by omega)⟩, ?_⟩
      rw [F202.get (t := 16) rfl, hL154.get (t := 16) rfl]; simp [intOf] <;> omega
    · skip
      refine wp_cond_false (c_false F161 rfl (decide_eq_false hc163)) ?_
      refine wp_exit ?_
      refine exit_then ?_
      refine exit_then ?_
      refine exit_here ?_
      refine hK138 _ _ ?_
      clear hK138
      refine wp_seq_k (fun K205 hK205 => ?_)
      refine wp_region_lit ?_
      refine qv 0 (.agg (boolVals bb).toArray) F161 rfl (rn_loadBlk (F161.get rfl) b151 Tryd.underlying60 rfl (inf60.trans (congrArg some (boolVals_len hbl).symm))) fun _ F207 => ?_; clear F161
      refine wpl_op (i := 1) rfl (o_store (cells := (boolVals bb)) F207 rfl rfl rfl rfl (F207.get rfl) (F207.get rfl) b151 (inf60.trans (congrArg some (boolVals_len hbl).symm)) ((boolVals_len hbl).trans (boolVals_len hbl).symm) (boolVals_one _) ?_)
      intro w208 b209 hg210; have z211 := hg210.size
      refine wpList_nil ?_
      refine hK205 _ _ ?_
      clear hK205
      refine wp_ret ?_
      refine retC F207 rfl rfl b209 Tryd.underlying60 rfl (inf60.trans (congrArg some (boolVals_len hbl).symm)) ?_
      have hk : k = 64 := by omega
      subst hk
      exact ⟨by rw [hp149, bitsUp_all]; rfl, (((Ext.refl w).trans hx147).grownN hg210 (by omega))⟩
  refine any_have (n1 := 2) (L1 := #[true, true, true, true, true, true, false, true, false]) (fun a' W => ∃ (g97 : Nat) (A69 : Option Addr) (c70 : Nat) (g49 : Nat) (A29 : Option Addr) (c30 : Nat), Sl 33 [(0, (.agg (byteVals root).toArray)), (1, (.int .i64 (i : Nat))), (2, (.slice A msg.length c)), (3, (.pointer (some ⟨g2, 0, none⟩))), (6, (.pointer (some ⟨g10, 0, none⟩))), (7, (.pointer (some ⟨g97, 0, none⟩))), (14, (.slice A69 (32 + 2 + msg.length) c70))] a' ∧ Ext w19 W ∧ Blk W g49 22 [(.slice (some ⟨g2, 0, none⟩) 32 32), (.slice A29 2 c30), (.slice A msg.length c)] ∧ w19.heap.size ≤ g49 ∧ Blk W g97 37 (byteVals (List.replicate 32 0)) ∧ w19.heap.size ≤ g97 ∧ g49 ≠ g97 ∧ Fl (fun b => w19.heap.size ≤ b) W 1 (.slice A29 2 c30) 2 (byteVals (two i)) ∧ Fl (fun b => w19.heap.size ≤ b) W 1 (.slice A69 (32 + 2 + msg.length) c70) (32 + 2 + msg.length) (byteVals (root ++ (two i) ++ msg))) ?_ (fun st212 => ?_)
  · skip
    rintro a213 w214 ⟨g97, A69, c70, g49, A29, c30, F215, hx216, b217, z218, b219, z220, z221, hf222, hf223⟩
    clear F17
    have z224 := hx216.size
    have z225 := b217.lt
    have z226 := b219.lt
    have z227 := (Fl.cel hf222).2.1
    have z228 := Fl.blen hf222
    have z229 := (Fl.cel hf223).2.1
    have z230 := Fl.blen hf223
    refine any_one (i := 6) (by decide +kernel) rfl ?_
    refine o_call F215 rfl rfl rfl rfl (rn_call (args2 rfl (F215.get rfl)) rfl (by kernel_rfl)) (tagged_at ([109, 101, 115, 115, 97, 103, 101]) (v := (.slice A69 (32 + 2 + msg.length) c70)) (n := (32 + 2 + msg.length)) (root ++ (two i) ++ msg) _ hf223 (hG.ext (((((Ext.refl w).trans hx5).trans hx13).trans hx20).trans hx216)) (by simp <;> omega) (by omega)) ?_
    rintro _ w231 ⟨rfl, hx232⟩
    refine ⟨_, rfl, ?_⟩; intro a233 F234; clear F215; have z235 := hx232.size
    have b236 := ((((b4.ext hx13).ext hx20).ext hx216).ext hx232)
    refine ⟨fun _ _ => ⟨(((Ext.refl w19).trans hx216).trans hx232), b236⟩, ?_⟩
    have b237 := (b217.ext hx232)
    have b238 := (b219.ext hx232)
    have d239 := (hf222.ext hx232)
    exact st118 _ _ ⟨g97, g49, A29, c30, (((((((F234.nil.c F234 15 rfl).c F234 7 rfl).c F234 6 rfl).c F234 3 rfl).c F234 2 rfl).c F234 1 rfl).c F234 0 rfl), (((Ext.refl w19).trans hx216).trans hx232), b237, (by omega), b238, (by omega), (by omega), (Fl.sub d239 (fun b hb => by first | omega | (simp only [Clip] at hb; omega)))⟩
  refine any_have (n1 := 3) (L1 := #[true, true, true, true, true, false, false, true, false]) (fun a' W => ∃ (g82 : Nat) (g49 : Nat) (A29 : Option Addr) (c30 : Nat), Sl 33 [(0, (.agg (byteVals root).toArray)), (1, (.int .i64 (i : Nat))), (2, (.slice A msg.length c)), (3, (.pointer (some ⟨g2, 0, none⟩))), (6, (.pointer (some ⟨g10, 0, none⟩))), (7, (.pointer (some ⟨g82, 0, none⟩))), (13, (.slice (some ⟨g49, 0, none⟩) 3 3))] a' ∧ Ext w19 W ∧ Blk W g49 22 [(.slice (some ⟨g2, 0, none⟩) 32 32), (.slice A29 2 c30), (.slice A msg.length c)] ∧ w19.heap.size ≤ g49 ∧ Blk W g82 37 (byteVals (List.replicate 32 0)) ∧ w19.heap.size ≤ g82 ∧ g49 ≠ g82 ∧ Fl (fun b => w19.heap.size ≤ b) W 1 (.slice A29 2 c30) 2 (byteVals (two i))) ?_ (fun st240 => ?_)
  · skip
    rintro a241 w242 ⟨g82, g49, A29, c30, F243, hx244, b245, z246, b247, z248, z249, hf250⟩
    clear F17
    have z251 := hx244.size
    have z252 := b245.lt
    have z253 := b247.lt
    have z254 := (Fl.cel hf250).2.1
    have z255 := Fl.blen hf250
    refine any_one (i := 5) (by decide +kernel) rfl ?_
    have b256 := (((b4.ext hx13).ext hx20).ext hx244)
    have d257 := ((((hc.ext hx5).ext hx13).ext hx20).ext hx244)
    have hn261 := Fl.blen (Fl.blk (S := fun b => b = g2) (k := 1) (n := 32) (c := 32) b256 (by rw [byteVals_len hd, Nat.mul_one]) (byteVals_one _) (by omega) rfl)
    have hn262 := Fl.blen hf250
    have hn263 := Fl.blen d257
    have hn264 : ([root, two i, msg]).flatten.length = 32 + 2 + msg.length := by simp only [List.flatten_cons, List.flatten_nil, List.length_append, List.length_nil]; omega
    refine o_call F243 rfl rfl rfl rfl (rn_call (args1 (F243.get rfl)) rfl (by kernel_rfl)) (concat_at [root, two i, msg] _ (RBss.three b245 (Fl.blk (S := fun b => b = g2) (k := 1) (n := 32) (c := 32) b256 (by rw [byteVals_len hd, Nat.mul_one]) (byteVals_one _) (by omega) rfl) hf250 d257) hn264 (by omega)) ?_
    rintro _ w265 ⟨A258, c259, rfl, hf260, hx266⟩
    rw [show ([root, two i, msg]).flatten = root ++ (two i) ++ msg from by simp] at hf260
    refine ⟨_, rfl, ?_⟩; intro a267 F268; clear F243; have z269 := hx266.size
    have b270 := (b256.ext hx266)
    refine ⟨fun _ _ => ⟨(((Ext.refl w19).trans hx244).trans hx266), b270⟩, ?_⟩
    have b271 := (b245.ext hx266)
    have b272 := (b247.ext hx266)
    have d273 := (hf250.ext hx266)
    exact st212 _ _ ⟨g82, A258, c259, g49, A29, c30, (((((((F268.nil.c F268 14 rfl).c F268 7 rfl).c F268 6 rfl).c F268 3 rfl).c F268 2 rfl).c F268 1 rfl).c F268 0 rfl), (((Ext.refl w19).trans hx244).trans hx266), b271, (by omega), b272, (by omega), (by omega), (Fl.sub d273 (fun b hb => by first | omega | (simp only [Clip] at hb; omega))), (Fl.sub hf260 (fun b hb => by first | omega | (simp only [Clip] at hb; omega)))⟩
  refine any_have (n1 := 4) (L1 := #[true, true, true, true, false, false, false, true, false]) (fun a' W => ∃ (g58 : Nat) (A29 : Option Addr) (c30 : Nat), Sl 33 [(0, (.agg (byteVals root).toArray)), (1, (.int .i64 (i : Nat))), (2, (.slice A msg.length c)), (3, (.pointer (some ⟨g2, 0, none⟩))), (6, (.pointer (some ⟨g10, 0, none⟩))), (7, (.pointer (some ⟨g58, 0, none⟩))), (9, (.slice (some ⟨g2, 0, none⟩) 32 32)), (11, (.slice A29 2 c30)), (12, (.slice A msg.length c))] a' ∧ Ext w19 W ∧ Blk W g58 37 (byteVals (List.replicate 32 0)) ∧ w19.heap.size ≤ g58 ∧ Fl (fun b => w19.heap.size ≤ b) W 1 (.slice A29 2 c30) 2 (byteVals (two i))) ?_ (fun st274 => ?_)
  · skip
    rintro a275 w276 ⟨g58, A29, c30, F277, hx278, b279, z280, hf281⟩
    clear F17
    have z282 := hx278.size
    have z283 := b279.lt
    have z284 := (Fl.cel hf281).2.1
    have z285 := Fl.blen hf281
    refine any_one (i := 4) (by decide +kernel) rfl ?_
    refine o_new (fun g => (.slice (some ⟨g, 0, none⟩) 3 3)) [(.slice (some ⟨g2, 0, none⟩) 32 32), (.slice A29 2 c30), (.slice A msg.length c)] 22 F277 rfl rfl rfl rfl (rn_buildSlice (parts3 (F277.get rfl) (F277.get rfl) (F277.get rfl)) (by kernel_rfl)) ?_
    intro g286 w287 a292 F293 z290 z291 b288 hx289; clear F277
    have b294 := ((((b4.ext hx13).ext hx20).ext hx278).ext hx289)
    refine ⟨fun _ _ => ⟨(((Ext.refl w19).trans hx278).trans hx289), b294⟩, ?_⟩
    have b295 := (b279.ext hx289)
    have d296 := (hf281.ext hx289)
    exact st240 _ _ ⟨g58, g286, A29, c30, (((((((F293.nil.c F293 13 rfl).c F293 7 rfl).c F293 6 rfl).c F293 3 rfl).c F293 2 rfl).c F293 1 rfl).c F293 0 rfl), (((Ext.refl w19).trans hx278).trans hx289), b288, (by omega), b295, (by omega), (by omega), (Fl.sub d296 (fun b hb => by first | omega | (simp only [Clip] at hb; omega)))⟩
  refine qp 0 (.slice (some ⟨g2, 0, none⟩) 32 32) F17 rfl rfl (fun W => (rn_arrAll Tryd.underlying37 inf5 (F17.get rfl))) fun _ F298 => ?_; clear F17
  refine qp 1 (.int .i64 (i : Nat)) F298 rfl rfl (fun W => (rn_move (F298.get rfl))) fun _ F300 => ?_; clear F298
  refine qp 3 (.slice A msg.length c) F300 rfl rfl (fun W => (rn_move (F300.get rfl))) fun _ F302 => ?_; clear F300
  refine any_two (i := 2) (k := 7) (by decide +kernel) rfl rfl ?_ ?_
  · skip
    refine o_call F302 rfl rfl rfl rfl (rn_call (args1 (F302.get rfl)) rfl (by kernel_rfl)) (two_any i _ (by omega)) ?_
    rintro _ w307 ⟨A303, c304, rfl, hf305, hx308⟩
    have z306 := (Fl.cel hf305).2.1
    refine ⟨_, rfl, ?_⟩; intro a309 F310; clear F302; have z311 := hx308.size
    have hf312 : Fl (Clip (fun b => w19.heap.size ≤ b) w307) w307 1 (.slice A303 2 c304) 2 (byteVals (two i)) := hf305.clip
    have b313 := (((b4.ext hx13).ext hx20).ext hx308)
    refine ⟨fun _ _ => ⟨((Ext.refl w19).trans hx308), b313⟩, ?_⟩
    refine any_two (i := 4) (k := 7) (by decide +kernel) rfl rfl ?_ ?_
    · skip
      refine o_new (fun g => (.slice (some ⟨g, 0, none⟩) 3 3)) [(.slice (some ⟨g2, 0, none⟩) 32 32), (.slice A303 2 c304), (.slice A msg.length c)] 22 F310 rfl rfl rfl rfl (rn_buildSlice (parts3 (F310.get rfl) (F310.get rfl) (F310.get rfl)) (by kernel_rfl)) ?_
      intro g314 w315 a320 F321 z318 z319 b316 hx317; clear F310
      have b322 := (b313.ext hx317)
      refine ⟨fun _ _ => ⟨(((Ext.refl w19).trans hx308).trans hx317), b322⟩, ?_⟩
      refine any_two (i := 5) (k := 7) (by decide +kernel) rfl rfl ?_ ?_
      · skip
        have d323 := (hf312.ext hx317)
        have d324 := (((((hc.ext hx5).ext hx13).ext hx20).ext hx308).ext hx317)
        have hn328 := Fl.blen (Fl.blk (S := fun b => b = g2) (k := 1) (n := 32) (c := 32) b322 (by rw [byteVals_len hd, Nat.mul_one]) (byteVals_one _) (by omega) rfl)
        have hn329 := Fl.blen d323
        have hn330 := Fl.blen d324
        have hn331 : ([root, two i, msg]).flatten.length = 32 + 2 + msg.length := by simp only [List.flatten_cons, List.flatten_nil, List.length_append, List.length_nil]; omega
        refine o_call F321 rfl rfl rfl rfl (rn_call (args1 (F321.get rfl)) rfl (by kernel_rfl)) (concat_at [root, two i, msg] _ (RBss.three b316 (Fl.blk (S := fun b => b = g2) (k := 1) (n := 32) (c := 32) b322 (by rw [byteVals_len hd, Nat.mul_one]) (byteVals_one _) (by omega) rfl) d323 d324) hn331 (by omega)) ?_
        rintro _ w332 ⟨A325, c326, rfl, hf327, hx333⟩
        rw [show ([root, two i, msg]).flatten = root ++ (two i) ++ msg from by simp] at hf327
        refine ⟨_, rfl, ?_⟩; intro a334 F335; clear F321; have z336 := hx333.size
        have b337 := (b322.ext hx333)
        refine ⟨fun _ _ => ⟨((((Ext.refl w19).trans hx308).trans hx317).trans hx333), b337⟩, ?_⟩
        refine any_two (i := 6) (k := 7) (by decide +kernel) rfl rfl ?_ ?_
        · skip
          refine o_call F335 rfl rfl rfl rfl (rn_call (args2 rfl (F335.get rfl)) rfl (by kernel_rfl)) (tagged_at ([109, 101, 115, 115, 97, 103, 101]) (v := (.slice A325 (32 + 2 + msg.length) c326)) (n := (32 + 2 + msg.length)) (root ++ (two i) ++ msg) _ hf327 (hG.ext (((((((Ext.refl w).trans hx5).trans hx13).trans hx20).trans hx308).trans hx317).trans hx333)) (by simp <;> omega) (by omega)) ?_
          rintro _ w338 ⟨rfl, hx339⟩
          refine ⟨_, rfl, ?_⟩; intro a340 F341; clear F335; have z342 := hx339.size
          have b343 := (b337.ext hx339)
          refine ⟨fun _ _ => ⟨(((((Ext.refl w19).trans hx308).trans hx317).trans hx333).trans hx339), b343⟩, ?_⟩
          refine any_one (i := 7) (by decide +kernel) rfl ?_
          refine o_new (fun g => (.pointer (some ⟨g, 0, none⟩))) (byteVals (List.replicate 32 0)) 37 F341 rfl rfl rfl rfl (by kernel_rfl) ?_
          intro g344 w345 a350 F351 z348 z349 b346 hx347; clear F341
          have b352 := (b343.ext hx347)
          refine ⟨fun _ _ => ⟨((((((Ext.refl w19).trans hx308).trans hx317).trans hx333).trans hx339).trans hx347), b352⟩, ?_⟩
          have b353 := (((b316.ext hx333).ext hx339).ext hx347)
          have d354 := ((((hf312.ext hx317).ext hx333).ext hx339).ext hx347)
          exact st118 _ _ ⟨g344, g314, A303, c304, (((((((F351.nil.c F351 15 rfl).c F351 7 rfl).c F351 6 rfl).c F351 3 rfl).c F351 2 rfl).c F351 1 rfl).c F351 0 rfl), ((((((Ext.refl w19).trans hx308).trans hx317).trans hx333).trans hx339).trans hx347), b353, (by omega), b346, (by omega), (by omega), (Fl.sub d354 (fun b hb => by first | omega | (simp only [Clip] at hb; omega)))⟩
        · skip
          refine o_new (fun g => (.pointer (some ⟨g, 0, none⟩))) (byteVals (List.replicate 32 0)) 37 F335 rfl rfl rfl rfl (by kernel_rfl) ?_
          intro g355 w356 a361 F362 z359 z360 b357 hx358; clear F335
          have b363 := (b337.ext hx358)
          refine ⟨fun _ _ => ⟨(((((Ext.refl w19).trans hx308).trans hx317).trans hx333).trans hx358), b363⟩, ?_⟩
          have b364 := ((b316.ext hx333).ext hx358)
          have d365 := (((hf312.ext hx317).ext hx333).ext hx358)
          have d366 := (hf327.ext hx358)
          exact st212 _ _ ⟨g355, A325, c326, g314, A303, c304, (((((((F362.nil.c F362 14 rfl).c F362 7 rfl).c F362 6 rfl).c F362 3 rfl).c F362 2 rfl).c F362 1 rfl).c F362 0 rfl), (((((Ext.refl w19).trans hx308).trans hx317).trans hx333).trans hx358), b364, (by omega), b357, (by omega), (by omega), (Fl.sub d365 (fun b hb => by first | omega | (simp only [Clip] at hb; omega))), (Fl.sub d366 (fun b hb => by first | omega | (simp only [Clip] at hb; omega)))⟩
      · skip
        refine o_new (fun g => (.pointer (some ⟨g, 0, none⟩))) (byteVals (List.replicate 32 0)) 37 F321 rfl rfl rfl rfl (by kernel_rfl) ?_
        intro g367 w368 a373 F374 z371 z372 b369 hx370; clear F321
        have b375 := (b322.ext hx370)
        refine ⟨fun _ _ => ⟨((((Ext.refl w19).trans hx308).trans hx317).trans hx370), b375⟩, ?_⟩
        have b376 := (b316.ext hx370)
        have d377 := ((hf312.ext hx317).ext hx370)
        exact st240 _ _ ⟨g367, g314, A303, c304, (((((((F374.nil.c F374 13 rfl).c F374 7 rfl).c F374 6 rfl).c F374 3 rfl).c F374 2 rfl).c F374 1 rfl).c F374 0 rfl), ((((Ext.refl w19).trans hx308).trans hx317).trans hx370), b376, (by omega), b369, (by omega), (by omega), (Fl.sub d377 (fun b hb => by first | omega | (simp only [Clip] at hb; omega)))⟩
    · skip
      refine o_new (fun g => (.pointer (some ⟨g, 0, none⟩))) (byteVals (List.replicate 32 0)) 37 F310 rfl rfl rfl rfl (by kernel_rfl) ?_
      intro g378 w379 a384 F385 z382 z383 b380 hx381; clear F310
      have b386 := (b313.ext hx381)
      refine ⟨fun _ _ => ⟨(((Ext.refl w19).trans hx308).trans hx381), b386⟩, ?_⟩
      have d387 := (hf312.ext hx381)
      exact st274 _ _ ⟨g378, A303, c304, (((((((((F385.nil.c F385 12 rfl).c F385 11 rfl).c F385 9 rfl).c F385 7 rfl).c F385 6 rfl).c F385 3 rfl).c F385 2 rfl).c F385 1 rfl).c F385 0 rfl), (((Ext.refl w19).trans hx308).trans hx381), b380, (by omega), (Fl.sub d387 (fun b hb => by first | omega | (simp only [Clip] at hb; omega)))⟩
  · skip
    refine o_new (fun g => (.pointer (some ⟨g, 0, none⟩))) (byteVals (List.replicate 32 0)) 37 F302 rfl rfl rfl rfl (by kernel_rfl) ?_
    intro g388 w389 a394 F395 z392 z393 b390 hx391; clear F302
    have b396 := (((b4.ext hx13).ext hx20).ext hx391)
    refine ⟨fun _ _ => ⟨((Ext.refl w19).trans hx391), b396⟩, ?_⟩
    refine any_one (i := 2) (by decide +kernel) rfl ?_
    refine o_call F395 rfl rfl rfl rfl (rn_call (args1 (F395.get rfl)) rfl (by kernel_rfl)) (two_any i _ (by omega)) ?_
    rintro _ w401 ⟨A397, c398, rfl, hf399, hx402⟩
    have z400 := (Fl.cel hf399).2.1
    refine ⟨_, rfl, ?_⟩; intro a403 F404; clear F395; have z405 := hx402.size
    have hf406 : Fl (Clip (fun b => w389.heap.size ≤ b) w401) w401 1 (.slice A397 2 c398) 2 (byteVals (two i)) := hf399.clip
    have b407 := (b396.ext hx402)
    refine ⟨fun _ _ => ⟨(((Ext.refl w19).trans hx391).trans hx402), b407⟩, ?_⟩
    have b408 := (b390.ext hx402)
    exact st274 _ _ ⟨g388, A397, c398, (((((((((F404.nil.c F404 12 rfl).c F404 11 rfl).c F404 9 rfl).c F404 7 rfl).c F404 6 rfl).c F404 3 rfl).c F404 2 rfl).c F404 1 rfl).c F404 0 rfl), (((Ext.refl w19).trans hx391).trans hx402), b408, (by omega), (Fl.sub hf406 (fun b hb => by first | omega | (simp only [Clip] at hb; omega)))⟩

theorem signed_at {v : Value} {m : Nat} (root : List UInt8) (i : Nat) (msg : List UInt8) (w : World) (hd : root.length = 32) (hf : Fl S w 1 v m (byteVals msg)) (hG : Glob w) (hm : m ≤ 4194304) (hi : i < 65536) :
    Calls Tryd.prog 33 #[.agg (byteVals root).toArray, .int .i64 (i : Nat), v] w (fun e w' => e = .returned (.agg (boolVals (bitsL root i msg)).toArray) ∧ Ext w w') := by
  have hmm := hf.blen
  subst hmm
  obtain ⟨A, c, rfl, _⟩ := hf.form
  exact signed_any A c root i msg w hd hf hG hm hi

theorem signed_int {v : Value} {m : Nat} (root : List UInt8) (i : Int) (msg : List UInt8) (w : World) (hd : root.length = 32) (hf : Fl S w 1 v m (byteVals msg)) (hG : Glob w) (hm : m ≤ 4194304) (h0 : 0 ≤ i) (hi : i < 65536) :
    Calls Tryd.prog 33 #[.agg (byteVals root).toArray, .int .i64 i, v] w (fun e w' => e = .returned (.agg (boolVals (bitsL root i.toNat msg)).toArray) ∧ Ext w w') := by
  obtain ⟨k, rfl⟩ : ∃ k : Nat, i = (k : Int) := ⟨i.toNat, by omega⟩
  exact signed_at root k msg w hd hf hG hm (by omega)

set_option maxRecDepth 100000 in
set_option maxHeartbeats 1000000 in
theorem bits_any (A : Option Addr) (c : Nat) (root : List UInt8) (i : Int) (msg : List UInt8) (w : World) (hd : root.length = 32) (hf : Fl S w 1 (.slice A msg.length c) msg.length (byteVals msg)) (hG : Glob w) (hm : msg.length ≤ 4194304) :
    Calls Tryd.prog 24 #[.agg (byteVals root).toArray, .int .i64 i, .slice A msg.length c] w (fun e w' => ∃ A m c, e = .returned (.slice A m c) ∧ Fl (fun b => w.heap.size ≤ b) w' 1 (.slice A m c) m (boolVals (bitsR root i msg)) ∧ Ext w w') := by
  have hc : Fl (Clip S w) w 1 (.slice A msg.length c) msg.length (byteVals msg) := hf.clip
  have hcc := (Fl.cel hc).2.1
  refine calls_enter (l := [(.agg (byteVals root).toArray), (.int .i64 i), (.slice A msg.length c)]) Tryd.func24 rfl rfl rfl (fun aA hF => ?_)
  refine wp_seq_k (fun K1 hK1 => ?_)
  refine wp_region_lit ?_
  refine wpl_op (i := 0) rfl (o_new (fun g => (.pointer (some ⟨g, 0, none⟩))) (byteVals root) 37 hF rfl rfl rfl rfl (rn_box (hF.get rfl) (box_arr _)) ?_)
  intro g2 w3 a8 F9 z6 z7 b4 hx5; clear hF
  refine qv 1 (.slice none 0 0) F9 rfl (rn_assign rfl) fun _ F11 => ?_; clear F9
  refine wpList_nil ?_
  refine hK1 _ _ ?_
  clear hK1
  refine wp_seq_k (fun K12 hK12 => ?_)
  refine wp_seq_k (fun K13 hK13 => ?_)
  refine wp_region_lit ?_
  refine qv 0 (.int .i64 i) F11 rfl (rn_move (F11.get rfl)) fun _ F15 => ?_; clear F11
  refine qv 1 (.bool (decide ((i : Int) < (0 : Int)))) F15 rfl (rn_lss (F15.get rfl) rfl) fun _ F17 => ?_; clear F15
  refine qv 2 (.bool (decide ((i : Int) < (0 : Int)))) F17 rfl (rn_move (F17.get rfl)) fun _ F19 => ?_; clear F17
  by_cases hc20 : (i : Int) < (0 : Int)
  · skip
    refine qu 3 F19 (decide_eq_true hc20) fun _ F22 => ?_; clear F19
    refine qu 4 F22 (decide_eq_true hc20) fun _ F24 => ?_; clear F22
    refine qv 5 (.bool true) F24 rfl (rn_pickT (c_true F24 rfl (decide_eq_true hc20)) rfl) fun _ F26 => ?_; clear F24
    refine wpList_nil ?_
    refine hK13 _ _ ?_
    clear hK13
    have F27 := ((((((F26.nil.c F26 13 rfl).c F26 6 rfl).c F26 3 rfl).c F26 2 rfl).c F26 1 rfl).c F26 0 rfl)
    clear F26
    refine wp_cond_true (c_true F27 rfl rfl) ?_
    refine wp_seq_k (fun K28 hK28 => ?_)
    refine wp_region_lit ?_
    refine qv 0 (.slice none 0 0) F27 rfl (rn_assign rfl) fun _ F30 => ?_; clear F27
    refine wpList_nil ?_
    refine hK28 _ _ ?_
    clear hK28
    refine wp_ret ?_
    refine ret_then ?_
    refine ret1 F30 rfl rfl ?_
    exact ⟨none, 0, 0, rfl, by rw [bitsR_out (by omega)]; exact Fl.nil _, ((Ext.refl w).trans hx5)⟩
  · skip
    refine qg 3 (.int .i64 i) F19 (decide_eq_false hc20) (rn_move (F19.get rfl)) fun _ F32 => ?_; clear F19
    refine qg 4 (.bool (decide ((4096 : Int) ≤ (i : Int)))) F32 (decide_eq_false hc20) (rn_geq (F32.get rfl) rfl) fun _ F34 => ?_; clear F32
    refine qv 5 (.bool (decide ((4096 : Int) ≤ (i : Int)))) F34 rfl (rn_pickF (c_false F34 rfl (decide_eq_false hc20)) (F34.get rfl)) fun _ F36 => ?_; clear F34
    refine wpList_nil ?_
    refine hK13 _ _ ?_
    clear hK13
    have F37 := ((((((F36.nil.c F36 13 rfl).c F36 6 rfl).c F36 3 rfl).c F36 2 rfl).c F36 1 rfl).c F36 0 rfl)
    clear F36
    by_cases hc38 : (4096 : Int) ≤ (i : Int)
    · skip
      refine wp_cond_true (c_true F37 rfl (decide_eq_true hc38)) ?_
      refine wp_seq_k (fun K39 hK39 => ?_)
      refine wp_region_lit ?_
      refine qv 0 (.slice none 0 0) F37 rfl (rn_assign rfl) fun _ F41 => ?_; clear F37
      refine wpList_nil ?_
      refine hK39 _ _ ?_
      clear hK39
      refine wp_ret ?_
      refine ret_then ?_
      refine ret1 F41 rfl rfl ?_
      exact ⟨none, 0, 0, rfl, by rw [bitsR_out (by omega)]; exact Fl.nil _, ((Ext.refl w).trans hx5)⟩
    · skip
      refine wp_cond_false (c_false F37 rfl (decide_eq_false hc38)) ?_
      refine wp_skip ?_
      refine hK12 _ _ ?_
      clear hK12
      refine wp_seq_k (fun K42 hK42 => ?_)
      refine wp_region_lit ?_
      refine qv 0 (.agg (byteVals root).toArray) F37 rfl (rn_loadBlk (F37.get rfl) b4 Tryd.underlying37 rfl (inf37.trans (congrArg some (byteVals_len hd).symm))) fun _ F44 => ?_; clear F37
      refine qv 1 (.int .i64 i) F44 rfl (rn_move (F44.get rfl)) fun _ F46 => ?_; clear F44
      refine qv 2 (.slice A msg.length c) F46 rfl (rn_move (F46.get rfl)) fun _ F48 => ?_; clear F46
      have d49 := (hc.ext hx5)
      have hi50 : (((i : Int).toNat : Nat) : Int) = i := by omega
      refine wpl_op (i := 3) rfl (o_call F48 rfl rfl rfl rfl (rn_call (args3 (F48.get rfl) (F48.get rfl) (F48.get rfl)) rfl (by kernel_rfl)) (signed_int (v := (.slice A msg.length c)) (m := msg.length) root i msg _ hd d49 (hG.ext ((Ext.refl w).trans hx5)) (by omega) (by omega) (by omega)) ?_)
      rintro _ w51 ⟨rfl, hx52⟩
      refine ⟨_, rfl, ?_⟩; intro a53 F54; clear F48; have z55 := hx52.size
      refine wpl_op (i := 4) rfl (o_new (fun g => (.pointer (some ⟨g, 0, none⟩))) (boolVals (List.replicate 64 false)) 60 F54 rfl rfl rfl rfl (by kernel_rfl) ?_)
      intro g56 w57 a62 F63 z60 z61 b58 hx59; clear F54
      refine wpl_op (i := 5) rfl (o_store (cells := (boolVals (bitsL root ((i : Int).toNat) msg))) F63 rfl rfl rfl rfl (F63.get rfl) (F63.get rfl) b58 (inf60.trans (congrArg some (boolVals_len (bitsL_len _ _ _)).symm)) ((boolVals_len (show List.length (List.replicate 64 false) = _ from List.length_replicate)).trans (boolVals_len (bitsL_len _ _ _)).symm) (boolVals_one _) ?_)
      intro w64 b65 hg66; have z67 := hg66.size
      refine wpList_nil ?_
      refine hK42 _ _ ?_
      clear hK42
      have F68 := (((((((F63.nil.c F63 7 rfl).c F63 13 rfl).c F63 6 rfl).c F63 3 rfl).c F63 2 rfl).c F63 1 rfl).c F63 0 rfl)
      clear F63
      refine wp_seq_k (fun K69 hK69 => ?_)
      refine wp_region_lit ?_
      refine qv 0 (.slice (some ⟨g56, 0, none⟩) 64 64) F68 rfl (rn_arrAll Tryd.underlying60 inf4 (F68.get rfl)) fun _ F71 => ?_; clear F68
      refine qv 1 (.slice (some ⟨g56, 0, none⟩) 64 64) F71 rfl (rn_assign (F71.get rfl)) fun _ F73 => ?_; clear F71
      refine wpList_nil ?_
      refine hK69 _ _ ?_
      clear hK69
      refine wp_ret ?_
      refine ret1 F73 rfl rfl ?_
      have hbr := bitsR_in (root := root) (i := i) (msg := msg) (by omega)
      exact ⟨_, _, _, rfl, by rw [hbr]; exact Fl.sub (Fl.blk (S := fun b => b = g56) (k := 1) (n := 64) (c := 64) b65 (by rw [boolVals_len (bitsL_len _ _ _), Nat.mul_one]) (boolVals_one _) (by omega) rfl) (fun b hb => by omega), (((((Ext.refl w).trans hx5).trans hx52).trans hx59).grownN hg66 (by omega))⟩

theorem bits_at {v : Value} {m : Nat} (root : List UInt8) (i : Int) (msg : List UInt8) (w : World) (hd : root.length = 32) (hf : Fl S w 1 v m (byteVals msg)) (hG : Glob w) (hm : m ≤ 4194304) :
    Calls Tryd.prog 24 #[.agg (byteVals root).toArray, .int .i64 i, v] w (fun e w' => ∃ A m c, e = .returned (.slice A m c) ∧ Fl (fun b => w.heap.size ≤ b) w' 1 (.slice A m c) m (boolVals (bitsR root i msg)) ∧ Ext w w') := by
  have hmm := hf.blen
  subst hmm
  obtain ⟨A, c, rfl, _⟩ := hf.form
  exact bits_any A c root i msg w hd hf hG hm

set_option maxRecDepth 100000 in
set_option maxHeartbeats 1000000 in
theorem rbits_any (A : Option Addr) (c : Nat) (root : List UInt8) (i : Int) (msg : List UInt8) (w : World) (hd : root.length = 32) (hf : Fl S w 1 (.slice A msg.length c) msg.length (byteVals msg)) (hm : msg.length ≤ 4194304) :
    Calls Tryd.prog 25 #[.agg (byteVals root).toArray, .int .i64 i, .slice A msg.length c] w (fun e w' => ∃ A m c, e = .returned (.slice A m c) ∧ Fl (fun b => w.heap.size ≤ b) w' 1 (.slice A m c) m (boolVals (bitsR root i msg)) ∧ Ext w w') := by
  have hc : Fl (Clip S w) w 1 (.slice A msg.length c) msg.length (byteVals msg) := hf.clip
  have hcc := (Fl.cel hc).2.1
  refine calls_enter (l := [(.agg (byteVals root).toArray), (.int .i64 i), (.slice A msg.length c)]) Tryd.func25 rfl rfl rfl (fun aA hF => ?_)
  refine wp_seq_k (fun K1 hK1 => ?_)
  refine wp_region_lit ?_
  refine wpl_op (i := 0) rfl (o_new (fun g => (.pointer (some ⟨g, 0, none⟩))) (byteVals root) 37 hF rfl rfl rfl rfl (rn_box (hF.get rfl) (box_arr _)) ?_)
  intro g2 w3 a8 F9 z6 z7 b4 hx5; clear hF
  refine qv 1 (.slice none 0 0) F9 rfl (rn_assign rfl) fun _ F11 => ?_; clear F9
  refine wpList_nil ?_
  refine hK1 _ _ ?_
  clear hK1
  refine wp_seq_k (fun K12 hK12 => ?_)
  refine wp_seq_k (fun K13 hK13 => ?_)
  refine wp_region_lit ?_
  refine qv 0 (.int .i64 i) F11 rfl (rn_move (F11.get rfl)) fun _ F15 => ?_; clear F11
  refine qv 1 (.bool (decide ((i : Int) < (0 : Int)))) F15 rfl (rn_lss (F15.get rfl) rfl) fun _ F17 => ?_; clear F15
  refine qv 2 (.bool (decide ((i : Int) < (0 : Int)))) F17 rfl (rn_move (F17.get rfl)) fun _ F19 => ?_; clear F17
  by_cases hc20 : (i : Int) < (0 : Int)
  · skip
    refine qu 3 F19 (decide_eq_true hc20) fun _ F22 => ?_; clear F19
    refine qu 4 F22 (decide_eq_true hc20) fun _ F24 => ?_; clear F22
    refine qv 5 (.bool true) F24 rfl (rn_pickT (c_true F24 rfl (decide_eq_true hc20)) rfl) fun _ F26 => ?_; clear F24
    refine wpList_nil ?_
    refine hK13 _ _ ?_
    clear hK13
    have F27 := ((((((F26.nil.c F26 16 rfl).c F26 6 rfl).c F26 3 rfl).c F26 2 rfl).c F26 1 rfl).c F26 0 rfl)
    clear F26
    refine wp_cond_true (c_true F27 rfl rfl) ?_
    refine wp_seq_k (fun K28 hK28 => ?_)
    refine wp_region_lit ?_
    refine qv 0 (.slice none 0 0) F27 rfl (rn_assign rfl) fun _ F30 => ?_; clear F27
    refine wpList_nil ?_
    refine hK28 _ _ ?_
    clear hK28
    refine wp_ret ?_
    refine ret_then ?_
    refine ret1 F30 rfl rfl ?_
    exact ⟨none, 0, 0, rfl, by rw [bitsR_out (by omega)]; exact Fl.nil _, ((Ext.refl w).trans hx5)⟩
  · skip
    refine qg 3 (.int .i64 i) F19 (decide_eq_false hc20) (rn_move (F19.get rfl)) fun _ F32 => ?_; clear F19
    refine qg 4 (.bool (decide ((4096 : Int) ≤ (i : Int)))) F32 (decide_eq_false hc20) (rn_geq (F32.get rfl) rfl) fun _ F34 => ?_; clear F32
    refine qv 5 (.bool (decide ((4096 : Int) ≤ (i : Int)))) F34 rfl (rn_pickF (c_false F34 rfl (decide_eq_false hc20)) (F34.get rfl)) fun _ F36 => ?_; clear F34
    refine wpList_nil ?_
    refine hK13 _ _ ?_
    clear hK13
    have F37 := ((((((F36.nil.c F36 16 rfl).c F36 6 rfl).c F36 3 rfl).c F36 2 rfl).c F36 1 rfl).c F36 0 rfl)
    clear F36
    by_cases hc38 : (4096 : Int) ≤ (i : Int)
    · skip
      refine wp_cond_true (c_true F37 rfl (decide_eq_true hc38)) ?_
      refine wp_seq_k (fun K39 hK39 => ?_)
      refine wp_region_lit ?_
      refine qv 0 (.slice none 0 0) F37 rfl (rn_assign rfl) fun _ F41 => ?_; clear F37
      refine wpList_nil ?_
      refine hK39 _ _ ?_
      clear hK39
      refine wp_ret ?_
      refine ret_then ?_
      refine ret1 F41 rfl rfl ?_
      exact ⟨none, 0, 0, rfl, by rw [bitsR_out (by omega)]; exact Fl.nil _, ((Ext.refl w).trans hx5)⟩
    · skip
      refine wp_cond_false (c_false F37 rfl (decide_eq_false hc38)) ?_
      refine wp_skip ?_
      refine hK12 _ _ ?_
      clear hK12
      refine wp_seq_k (fun K42 hK42 => ?_)
      refine wp_region_lit ?_
      refine wpl_op (i := 0) rfl (o_new (fun g => (.slice (some ⟨g, 0, none⟩) 0 0)) [] 5 F37 rfl rfl rfl rfl (rn_buildSlice (parts0 ) (by kernel_rfl)) ?_)
      intro g43 w44 a49 F50 z47 z48 b45 hx46; clear F37
      refine qv 1 (.slice (some ⟨g2, 0, none⟩) 32 32) F50 rfl (rn_arrAll Tryd.underlying37 inf5 (F50.get rfl)) fun _ F52 => ?_; clear F50
      have b54 := (b4.ext hx46)
      have hf63 := (own_blk0 (k := 1) b45)
      refine wpl_op (i := 2) rfl (o_appB (zs := byteVals root) El22 F52 rfl rfl rfl rfl rfl (F52.get rfl) (F52.get rfl) hf63 (Fl.cel (Fl.blk (S := fun b => b = g2) (k := 1) (n := 32) (c := 32) b54 (by rw [byteVals_len hd, Nat.mul_one]) (byteVals_one _) (by omega) rfl)).2.2 (by omega) (by omega) (by omega) (List.nil_append _) ?_)
      intro A55 c56 w57 a64 F65 r58 hg59 z60 z61 hnb62; clear F52; have z66 := hg59.size
      have hg67 : w44.grownBy w57 (some g43) := hg59
      refine qv 3 (.int .i64 i) F65 rfl (rn_move (F65.get rfl)) fun _ F69 => ?_; clear F65
      refine wpl_op (i := 4) rfl (o_call F69 rfl rfl rfl rfl (rn_call (args1 (F69.get rfl)) rfl (by kernel_rfl)) (rtwo_int i _ (by omega) (by omega)) ?_)
      rintro _ w74 ⟨A70, c71, rfl, hf72, hx75⟩
      have z73 := (Fl.cel hf72).2.1
      refine ⟨_, rfl, ?_⟩; intro a76 F77; clear F69; have z78 := hx75.size
      have hf79 : Fl (Clip (fun b => w57.heap.size ≤ b) w74) w74 1 (.slice A70 2 c71) 2 (byteVals (two (i : Int).toNat)) := hf72.clip
      have r80 := (own_ext r58 hx75)
      have hf89 := r80
      refine wpl_op (i := 5) rfl (o_appB (zs := byteVals (root ++ (two (i : Int).toNat))) El22 F77 rfl rfl rfl rfl rfl (F77.get rfl) (F77.get rfl) hf89 (Fl.cel hf79).2.2 (by omega) (by omega) (by omega) (byteVals_app _ _) ?_)
      intro A81 c82 w83 a90 F91 r84 hg85 z86 z87 hnb88; clear F77; have z92 := hg85.size
      refine qv 6 (.slice A81 ((0 + 32) + 2) c82) F91 rfl (rn_assign (F91.get rfl)) fun _ F94 => ?_; clear F91
      refine wpList_nil ?_
      refine hK42 _ _ ?_
      clear hK42
      have F95 := (((((((F94.nil.c F94 7 rfl).c F94 16 rfl).c F94 6 rfl).c F94 3 rfl).c F94 2 rfl).c F94 1 rfl).c F94 0 rfl)
      clear F94
      refine wp_seq_k (fun K96 hK96 => ?_)
      refine wp_region_lit ?_
      refine qv 0 (.slice A81 ((0 + 32) + 2) c82) F95 rfl (rn_move (F95.get rfl)) fun _ F98 => ?_; clear F95
      refine qv 1 (.slice A msg.length c) F98 rfl (rn_move (F98.get rfl)) fun _ F100 => ?_; clear F98
      have d101 := (hc.pres (Pres.row (((((Pres.refl w).ext hx5).ext hx46).grownN hg67 (fun h => by simp only [Clip] at h; omega)).ext hx75) hg85 hf89 (fun b hb h => by simp only [Clip] at h; omega)))
      have hf110 := r84
      refine wpl_op (i := 2) rfl (o_appB (zs := byteVals ((root ++ (two (i : Int).toNat)) ++ msg)) El22 F100 rfl rfl rfl rfl rfl (F100.get rfl) (F100.get rfl) hf110 (Fl.cel d101).2.2 (by omega) (by omega) (by omega) (byteVals_app _ _) ?_)
      intro A102 c103 w104 a111 F112 r105 hg106 z107 z108 hnb109; clear F100; have z113 := hg106.size
      refine wpl_op (i := 3) rfl (o_call F112 rfl rfl rfl rfl (rn_call (args2 rfl (F112.get rfl)) rfl (by kernel_rfl)) (rtagged_at ([109, 101, 115, 115, 97, 103, 101]) (v := (.slice A102 (((0 + 32) + 2) + msg.length) c103)) (n := ((0 + 32) + 2) + msg.length) ((root ++ (two (i : Int).toNat)) ++ msg) _ (Fl.own (S := fun b => g43 ≤ b) r105 (fun b hb => hb) (byteVals_one _)) (by decide) (by omega)) ?_)
      rintro _ w114 ⟨rfl, hx115⟩
      refine ⟨_, rfl, ?_⟩; intro a116 F117; clear F112; have z118 := hx115.size
      refine wpl_op (i := 4) rfl (o_new (fun g => (.pointer (some ⟨g, 0, none⟩))) (byteVals (List.replicate 32 0)) 37 F117 rfl rfl rfl rfl (by kernel_rfl) ?_)
      intro g119 w120 a125 F126 z123 z124 b121 hx122; clear F117
      refine wpl_op (i := 5) rfl (o_store (cells := (byteVals (tagged ([109, 101, 115, 115, 97, 103, 101]) ((root ++ (two (i : Int).toNat)) ++ msg)))) F126 rfl rfl rfl rfl (F126.get rfl) (F126.get rfl) b121 (inf37.trans (congrArg some (byteVals_len (tagged_len _ _)).symm)) ((byteVals_len (show List.length (List.replicate 32 0) = _ from List.length_replicate)).trans (byteVals_len (tagged_len _ _)).symm) (byteVals_one _) ?_)
      intro w127 b128 hg129; have z130 := hg129.size
      refine wpList_nil ?_
      refine hK96 _ _ ?_
      clear hK96
      have F131 := ((((((((F126.nil.c F126 8 rfl).c F126 7 rfl).c F126 16 rfl).c F126 6 rfl).c F126 3 rfl).c F126 2 rfl).c F126 1 rfl).c F126 0 rfl)
      clear F126
      refine wp_seq_k (fun K132 hK132 => ?_)
      refine wp_region_lit ?_
      refine wpl_op (i := 0) rfl (o_new (fun g => (.slice (some ⟨g, 0, none⟩) 0 0)) [] 4 F131 rfl rfl rfl rfl (rn_buildSlice (parts0 ) (by kernel_rfl)) ?_)
      intro g133 w134 a139 F140 z137 z138 b135 hx136; clear F131
      refine qv 1 (.slice (some ⟨g133, 0, none⟩) 0 0) F140 rfl (rn_assign (F140.get rfl)) fun _ F142 => ?_; clear F140
      refine wpList_nil ?_
      refine hK132 _ _ ?_
      clear hK132
      refine wp_seq_k (fun K143 hK143 => ?_)
      refine wp_seq_k (fun K144 hK144 => ?_)
      refine wp_region_lit ?_
      refine qv 0 (.int .i64 0) F142 rfl (rn_assign rfl) fun _ F146 => ?_; clear F142
      refine wpList_nil ?_
      refine hK144 _ _ ?_
      clear hK144
      refine wp_block ?_
      have hf147 := own_blk0 (k := 1) b135
      have b148 := (((((grown_blk hf110 hg106 (grown_blk hf89 hg85 ((b54.grownN hg67 (by omega)).ext hx75) (by decide)) (by decide)).ext hx115).ext hx122).grownN hg129 (by omega)).ext hx136)
      have b149 := (b128.ext hx136)
      refine wp_loop (fun a' W => ∃ (k : Nat) (Ap : Option Addr) (np : Nat) (cp : Nat) (bb : List Bool), Sl 46 [(0, (.agg (byteVals root).toArray)), (1, (.int .i64 i)), (2, (.slice A msg.length c)), (3, (.pointer (some ⟨g2, 0, none⟩))), (6, (.slice none 0 0)), (16, (.bool (decide ((4096 : Int) ≤ (i : Int))))), (7, (.slice A81 ((0 + 32) + 2) c82)), (8, (.pointer (some ⟨g119, 0, none⟩))), (9, (.slice Ap np cp)), (10, (.int .i64 (k : Nat)))] a' ∧ (k ≤ 64 ∧ np = k) ∧ bb = bitsTo (tagged ([109, 101, 115, 115, 97, 103, 101]) ((root ++ (two (i : Int).toNat)) ++ msg)) k ∧ Ext w W ∧ Blk W g2 37 (byteVals root) ∧ Blk W g119 37 (byteVals (tagged ([109, 101, 115, 115, 97, 103, 101]) ((root ++ (two (i : Int).toNat)) ++ msg))) ∧ W.ownsRow g133 4 1 (.slice Ap np cp) np (boolVals bb) ∧ g133 ≤ W.heap.size ∧ w134.heap.size ≤ W.heap.size) (fun a' _ => 64 - (intOf (a'.eval (.tmp 10))).toNat) ⟨0, (some ⟨g133, 0, none⟩), 0, 0, [], ((((((((((F146.nil.cons (q_get F146 (t := 10) rfl (by first | rfl | (congr 1; omega) | (congr 1; done)))).cons (q_get F146 (t := 9) rfl (by first | rfl | (congr 1; omega) | (congr 1; done)))).cons (q_get F146 (t := 8) rfl rfl)).cons (q_get F146 (t := 7) rfl rfl)).cons (q_get F146 (t := 16) rfl rfl)).cons (q_get F146 (t := 6) rfl rfl)).cons (q_get F146 (t := 3) rfl rfl)).cons (q_get F146 (t := 2) rfl rfl)).cons (q_get F146 (t := 1) rfl rfl)).cons (q_get F146 (t := 0) rfl rfl)), ⟨by omega, by omega⟩, rfl, (((((ext_row (ext_row (((((Ext.refl w).trans hx5).trans hx46).grownN hg67 (by omega)).trans hx75) hg85 hf89 (by omega)) hg106 hf110 (by omega)).trans hx115).trans hx122).grownN hg129 (by omega)).trans hx136), b148, b149, hf147, (by omega), (Nat.le_refl _)⟩ ?_
      clear F146
      rintro a150 w151 ⟨k, Ap, np, cp, bb, F152, hp154, hp155, hx153, b156, b157, r158, hf159, hf160⟩
      have hL161 := F152
      have z162 := hx153.size
      have z163 := b156.lt
      have z164 := b157.lt
      have z165 := own_form0 r158
      refine wp_seq_k (fun K166 hK166 => ?_)
      refine wp_seq_k (fun K167 hK167 => ?_)
      refine wp_region_lit ?_
      refine qv 0 (.int .i64 (k : Nat)) F152 rfl (rn_move (F152.get rfl)) fun _ F169 => ?_; clear F152
      refine qv 1 (.bool (decide (((k : Nat) : Int) < (64 : Int)))) F169 rfl (rn_lss (F169.get rfl) rfl) fun _ F171 => ?_; clear F169
      refine wpList_nil ?_
      refine hK167 _ _ ?_
      clear hK167
      by_cases hc172 : ((k : Nat) : Int) < (64 : Int)
      · skip
        refine wp_cond_true (c_true F171 rfl (decide_eq_true hc172)) ?_
        refine wp_skip ?_
        refine hK166 _ _ ?_
        clear hK166
        refine wp_seq_k (fun K173 hK173 => ?_)
        refine wp_block ?_
        refine wp_region_lit ?_
        refine qv 0 (.slice Ap np cp) F171 rfl (rn_move (F171.get rfl)) fun _ F175 => ?_; clear F171
        refine qv 1 (.int .i64 (k : Nat)) F175 rfl (rn_move (F175.get rfl)) fun _ F177 => ?_; clear F175
        refine qv 2 (.int .i64 (k / 8 : Nat)) F177 rfl (rn_quoN (a := k) (b := 8) (F177.get rfl) rfl (by omega) (by omega)) fun _ F179 => ?_; clear F177
        refine qv 3 (.pointer (some ⟨g119, 0 + (k / 8), none⟩)) F179 rfl (rn_indexArr Tryd.underlying37 inf5 (F179.get rfl) (F179.get rfl) (by omega : (0 : Int) ≤ (k / 8 : Nat)) (by omega : ((k / 8 : Nat) : Int) < ((32 : Nat) : Int))) fun _ F181 => ?_; clear F179
        refine qv 4 (.int .u8 (((tagged ([109, 101, 115, 115, 97, 103, 101]) ((root ++ (two (i : Int).toNat)) ++ msg)).getD (k / 8) 0).toNat : Nat)) F181 rfl (rn_load (isAgg_no Tryd.underlying5 rfl) (F181.get rfl) (blk_byte b157 (by omega) (by have := (show List.length (tagged ([109, 101, 115, 115, 97, 103, 101]) ((root ++ (two (i : Int).toNat)) ++ msg)) = _ from (tagged_len _ _)); omega))) fun _ F183 => ?_; clear F181
        refine qv 5 (.int .i64 (k : Nat)) F183 rfl (rn_move (F183.get rfl)) fun _ F185 => ?_; clear F183
        refine qv 6 (.int .i64 (k % 8 : Nat)) F185 rfl (rn_remN (a := k) (b := 8) (F185.get rfl) rfl (by omega)) fun _ F187 => ?_; clear F185
        refine qv 7 (.int .i64 (7 - (k % 8) : Nat)) F187 rfl (rn_subN (a := 7) (b := k % 8) rfl (F187.get rfl) (by omega) (by omega)) fun _ F189 => ?_; clear F187
        refine qv 8 (.int .u8 ((((tagged ([109, 101, 115, 115, 97, 103, 101]) ((root ++ (two (i : Int).toNat)) ++ msg)).getD (k / 8) 0) >>> UInt8.ofNat (7 - (k % 8))).toNat : Nat)) F189 rfl (rn_shr8 (a := ((tagged ([109, 101, 115, 115, 97, 103, 101]) ((root ++ (two (i : Int).toNat)) ++ msg)).getD (k / 8) 0)) (n := 7 - (k % 8)) (F189.get rfl) (F189.get rfl) (by omega)) fun _ F191 => ?_; clear F189
        refine qv 9 (.int .u8 (((((tagged ([109, 101, 115, 115, 97, 103, 101]) ((root ++ (two (i : Int).toNat)) ++ msg)).getD (k / 8) 0) >>> UInt8.ofNat (7 - (k % 8))) &&& (1 : UInt8)).toNat : Nat)) F191 rfl (rn_and8 (a := (((tagged ([109, 101, 115, 115, 97, 103, 101]) ((root ++ (two (i : Int).toNat)) ++ msg)).getD (k / 8) 0) >>> UInt8.ofNat (7 - (k % 8)))) (b := (1 : UInt8)) (F191.get rfl) rfl) fun _ F193 => ?_; clear F191
        refine qv 10 (.bool (decide (((((((tagged ([109, 101, 115, 115, 97, 103, 101]) ((root ++ (two (i : Int).toNat)) ++ msg)).getD (k / 8) 0) >>> UInt8.ofNat (7 - (k % 8))) &&& (1 : UInt8)).toNat : Nat) : Int) = (1 : Int)))) F193 rfl (rn_eql (F193.get rfl) rfl) fun _ F195 => ?_; clear F193
        have hf196 := r158
        refine wpl_op (i := 11) rfl (o_new (fun g => (.slice (some ⟨g, 0, none⟩) 1 1)) [(.bool (decide (((((((tagged ([109, 101, 115, 115, 97, 103, 101]) ((root ++ (two (i : Int).toNat)) ++ msg)).getD (k / 8) 0) >>> UInt8.ofNat (7 - (k % 8))) &&& (1 : UInt8)).toNat : Nat) : Int) = (1 : Int))))] 4 F195 rfl rfl rfl rfl (rn_buildSlice (parts1 (F195.get rfl)) (by kernel_rfl)) ?_)
        intro g197 w198 a203 F204 z201 z202 b199 hx200; clear F195
        have nb205 := own_new (g := g197) hf196 (by omega)
        have r206 := (own_ext r158 hx200)
        have hf215 := r206
        have nb216 : some g197 ≠ (Value.slice Ap np cp).ownBlock := nb205
        have z217 := b199.lt
        refine wpl_op (i := 12) rfl (o_appB (zs := boolVals (bb ++ ([decide (((((((tagged ([109, 101, 115, 115, 97, 103, 101]) ((root ++ (two (i : Int).toNat)) ++ msg)).getD (k / 8) 0) >>> UInt8.ofNat (7 - (k % 8))) &&& (1 : UInt8)).toNat : Nat) : Int) = (1 : Int))]))) El44 F204 rfl rfl rfl rfl rfl (F204.get rfl) (F204.get rfl) hf215 (Fl.cel (Fl.blk (S := fun b => b = g197) (k := 1) (n := 1) (c := 1) (cs := boolVals [decide (((((((tagged ([109, 101, 115, 115, 97, 103, 101]) ((root ++ (two (i : Int).toNat)) ++ msg)).getD (k / 8) 0) >>> UInt8.ofNat (7 - (k % 8))) &&& (1 : UInt8)).toNat : Nat) : Int) = (1 : Int))]) b199 rfl (boolVals_one _) (by omega) rfl)).2.2 (by omega) (by omega) (by omega) (boolVals_app _ _) ?_)
        intro A207 c208 w209 a218 F219 r210 hg211 z212 z213 hnb214; clear F204; have z220 := hg211.size
        have nb221 := hnb214 g197 (by omega) nb216
        refine qv 13 (.slice A207 (np + 1) c208) F219 rfl (rn_assign (F219.get rfl)) fun _ F223 => ?_; clear F219
        refine wpList_nil ?_
        refine hK173 _ _ ?_
        clear hK173
        have F224 := (((((((((((F223.nil.c F223 29 rfl).c F223 10 rfl).c F223 9 rfl).c F223 8 rfl).c F223 7 rfl).c F223 16 rfl).c F223 6 rfl).c F223 3 rfl).c F223 2 rfl).c F223 1 rfl).c F223 0 rfl)
        clear F223
        refine wp_region_lit ?_
        refine qv 0 (.int .i64 (k : Nat)) F224 rfl (rn_move (F224.get rfl)) fun _ F226 => ?_; clear F224
        refine qv 1 (.int .i64 (k + 1 : Nat)) F226 rfl (rn_addN (a := k) (b := 1) (F226.get rfl) rfl (by omega)) fun _ F228 => ?_; clear F226
        refine qv 2 (.int .i64 (k + 1 : Nat)) F228 rfl (rn_assign (F228.get rfl)) fun _ F230 => ?_; clear F228
        refine wpList_nil ?_
        have b231 := (grown_blk hf215 hg211 (b156.ext hx200) (by decide))
        have b232 := (grown_blk hf215 hg211 (b157.ext hx200) (by decide))
        refine ⟨⟨(k + 1), A207, np + 1, c208, bb ++ ([decide (((((((tagged ([109, 101, 115, 115, 97, 103, 101]) ((root ++ (two (i : Int).toNat)) ++ msg)).getD (k / 8) 0) >>> UInt8.ofNat (7 - (k % 8))) &&& (1 : UInt8)).toNat : Nat) : Int) = (1 : Int))]), ((((((((((F230.nil.cons (q_get F230 (t := 10) rfl (by first | rfl | (congr 1; omega) | (congr 1; done)))).cons (q_get F230 (t := 9) rfl (by first | rfl | (congr 1; omega) | (congr 1; done)))).cons (q_get F230 (t := 8) rfl rfl)).cons (q_get F230 (t := 7) rfl rfl)).cons (q_get F230 (t := 16) rfl rfl)).cons (q_get F230 (t := 6) rfl rfl)).cons (q_get F230 (t := 3) rfl rfl)).cons (q_get F230 (t := 2) rfl rfl)).cons (q_get F230 (t := 1) rfl rfl)).cons (q_get F230 (t := 0) rfl rfl)), ⟨by omega, by omega⟩, (by rw [hp155]; exact bitsTo_step _ k), (ext_row (((Ext.refl w).trans hx153).trans hx200) hg211 hf215 (by omega)), b231, b232, r210, (by omega), (by omega)⟩, ?_⟩
        rw [F230.get (t := 10) rfl, hL161.get (t := 10) rfl]; simp [intOf] <;> omega
      · skip
        refine wp_cond_false (c_false F171 rfl (decide_eq_false hc172)) ?_
        refine wp_exit ?_
        refine exit_then ?_
        refine exit_then ?_
        refine exit_here ?_
        refine hK143 _ _ ?_
        clear hK143
        refine wp_seq_k (fun K233 hK233 => ?_)
        refine wp_region_lit ?_
        refine qv 0 (.slice Ap np cp) F171 rfl (rn_move (F171.get rfl)) fun _ F235 => ?_; clear F171
        refine qv 1 (.slice Ap np cp) F235 rfl (rn_assign (F235.get rfl)) fun _ F237 => ?_; clear F235
        refine wpList_nil ?_
        refine hK233 _ _ ?_
        clear hK233
        refine wp_ret ?_
        refine ret1 F237 rfl rfl ?_
        have hbr := bitsR_in (root := root) (i := i) (msg := msg) (by omega)
        have hk : k = 64 := by omega
        have hb1 := hp155
        rw [hk] at hb1
        have hb2 : bitsR root i msg = bb := by rw [hbr, hb1]; rfl
        exact ⟨_, _, _, rfl, by rw [hb2]; exact Fl.sub (Fl.own (S := fun b => g133 ≤ b) r158 (fun b hb => hb) (boolVals_one _)) (fun b hb => by omega), ((Ext.refl w).trans hx153)⟩

theorem rbits_at {v : Value} {m : Nat} (root : List UInt8) (i : Int) (msg : List UInt8) (w : World) (hd : root.length = 32) (hf : Fl S w 1 v m (byteVals msg)) (hm : m ≤ 4194304) :
    Calls Tryd.prog 25 #[.agg (byteVals root).toArray, .int .i64 i, v] w (fun e w' => ∃ A m c, e = .returned (.slice A m c) ∧ Fl (fun b => w.heap.size ≤ b) w' 1 (.slice A m c) m (boolVals (bitsR root i msg)) ∧ Ext w w') := by
  have hmm := hf.blen
  subst hmm
  obtain ⟨A, c, rfl, _⟩ := hf.form
  exact rbits_any A c root i msg w hd hf hm

end Go.Proofs.YtmjgjopbeokajaaDoor

namespace Go.Proofs.YtmjgjopbeokajaaDoor
open Go.RowKit

variable {S S' : Nat → Prop}

theorem publics_int {v : Value} {m : Nat} (sd : List UInt8) (many used : Int) (w : World) (hf : Fl S w 1 v m (byteVals sd)) (hG : Glob w) (hsd : m ≤ 64) (h0 : 0 ≤ many) (hm : many ≤ 4096) :
    Calls Tryd.prog 31 #[.agg #[v, .int .i64 many, .int .i64 used]] w (fun e w' => ∃ A c, e = .returned (.slice A many.toNat c) ∧ Fl (fun b => w.heap.size ≤ b) w' 32 (.slice A many.toNat c) many.toNat (digVals (pubsL sd many.toNat)) ∧ Ext w w') := by
  obtain ⟨k, rfl⟩ : ∃ k : Nat, many = (k : Int) := ⟨many.toNat, by omega⟩
  exact publics_at sd k used w hf hG hsd (by omega)
theorem secret_int {v : Value} {m : Nat} (sd : List UInt8) (i : Int) (j : Nat) (b : Bool) (w : World) (hf : Fl S w 1 v m (byteVals sd)) (hG : Glob w) (hsd : m ≤ 4194304) (h0 : 0 ≤ i) (hi : i < 65536) (hj : j < 256) :
    Calls Tryd.prog 35 #[.agg #[v, .int .i64 i], .int .i64 (j : Nat), .bool b] w (fun e w' => e = .returned (.agg (byteVals (secretD sd i.toNat j b)).toArray) ∧ Ext w w') := by
  obtain ⟨k, rfl⟩ : ∃ k : Nat, i = (k : Int) := ⟨i.toNat, by omega⟩
  exact secret_at sd k j b w hf hG hsd (by omega) hj
theorem hash_int {v : Value} {m : Nat} (sd : List UInt8) (i : Int) (j : Nat) (b : Bool) (w : World) (hf : Fl S w 1 v m (byteVals sd)) (hG : Glob w) (hsd : m ≤ 4194304) (h0 : 0 ≤ i) (hi : i < 65536) (hj : j < 256) :
    Calls Tryd.prog 36 #[.agg #[v, .int .i64 i], .int .i64 (j : Nat), .bool b] w (fun e w' => e = .returned (.agg (byteVals (hashD sd i.toNat j b)).toArray) ∧ Ext w w') := by
  obtain ⟨k, rfl⟩ : ∃ k : Nat, i = (k : Int) := ⟨i.toNat, by omega⟩
  exact hash_at sd k j b w hf hG hsd (by omega) hj
theorem rbits_in {v : Value} {m : Nat} (root : List UInt8) (i : Int) (msg : List UInt8) (w : World) (hd : root.length = 32) (hf : Fl S w 1 v m (byteVals msg)) (hm : m ≤ 4194304) (h0 : 0 ≤ i) (h1 : i < 4096) :
    Calls Tryd.prog 25 #[.agg (byteVals root).toArray, .int .i64 i, v] w (fun e w' => ∃ A c, e = .returned (.slice A 64 c) ∧ Fl (fun b => w.heap.size ≤ b) w' 1 (.slice A 64 c) 64 (boolVals (bitsL root i.toNat msg)) ∧ Ext w w') := by
  refine (rbits_at root i msg w hd hf hm).mono ?_
  rintro e w' ⟨A, m, c, rfl, h, hx⟩
  rw [bitsR_in (by omega)] at h
  have := Fl.blen2 h
  rw [bitsL_len] at this
  subst this
  exact ⟨A, c, rfl, h, hx⟩
theorem opTo_step' {sd : List UInt8} {i : Nat} {bs : List Bool} {k : Nat} {l : List (List UInt8)} {b : Bool} (hl : l = opTo sd i bs k) (h : bs.getD k false = b) : l ++ [secretD sd i k b] = opTo sd i bs (k + 1) := by rw [hl, ← h]; exact opTo_step _ _ _ _
theorem clTo_step' {sd : List UInt8} {i : Nat} {bs : List Bool} {k : Nat} {l : List (List UInt8)} {b c : Bool} (hl : l = clTo sd i bs k) (h : bs.getD k false = b) (hc : c = !b) : l ++ [hashD sd i k c] = clTo sd i bs (k + 1) := by rw [hl, hc, ← h]; exact clTo_step _ _ _ _
theorem signF_no {sd : List UInt8} {many used idx : Int} {msg : List UInt8} {e : Int} (he : signE sd many used idx msg = e) (h0 : e ≠ 0) : signF sd many used idx msg = sgNil := by rw [signF, he, if_neg h0]
theorem signE1 {sd : List UInt8} {many used idx : Int} {msg : List UInt8} (h : kOk sd many used = false) : signE sd many used idx msg = 40 := by rw [signE, if_pos h]
theorem signE2 {sd : List UInt8} {many used idx : Int} {msg : List UInt8} (h : kOk sd many used = true) (h2 : 65536 < msg.length) : signE sd many used idx msg = 2 := by rw [signE, if_neg (by rw [h]; decide), if_pos h2]
theorem signE3 {sd : List UInt8} {many used idx : Int} {msg : List UInt8} (h : kOk sd many used = true) (h2 : ¬ 65536 < msg.length) (h3 : idx < 0 ∨ many ≤ idx) : signE sd many used idx msg = 40 := by rw [signE, if_neg (by rw [h]; decide), if_neg h2, if_pos h3]
theorem signE4 {sd : List UInt8} {many used idx : Int} {msg : List UInt8} (h : kOk sd many used = true) (h2 : ¬ 65536 < msg.length) (h3 : ¬ (idx < 0 ∨ many ≤ idx)) : signE sd many used idx msg = 0 := by rw [signE, if_neg (by rw [h]; decide), if_neg h2, if_neg h3]
theorem signF_yes {sd : List UInt8} {many used idx : Int} {msg : List UInt8} (h : kOk sd many used = true) (h2 : ¬ 65536 < msg.length) (h3 : ¬ (idx < 0 ∨ many ≤ idx)) :
    signF sd many used idx msg = ⟨idx, opTo sd idx.toNat (bitsL (treeD (pubsL sd many.toNat)) idx.toNat msg) 64, clTo sd idx.toNat (bitsL (treeD (pubsL sd many.toNat)) idx.toNat msg) 64, (pathF (pubsL sd many.toNat) idx).1⟩ := by
  have hp : (pathF (pubsL sd many.toNat) idx).1 = pathD (pubsL sd many.toNat) idx.toNat := by rw [pathF, if_neg (by rw [pubsL_len]; omega)]
  rw [signF, if_pos (signE4 h h2 h3), sgOf, hp]
  congr 1
  omega

end Go.Proofs.YtmjgjopbeokajaaDoor

namespace Go.Proofs.YtmjgjopbeokajaaDoor
open Go.RowKit

variable {S S' : Nat → Prop}

set_option maxRecDepth 100000 in
set_option maxHeartbeats 1000000 in
theorem sign_any (A : Option Addr) (c : Nat) (sd : List UInt8) (many used idx : Int) (B : Option Addr) (cb : Nat) (msg : List UInt8) (w : World) (hf : Fl S w 1 (.slice A sd.length c) sd.length (byteVals sd)) (hm : Fl S w 1 (.slice B msg.length cb) msg.length (byteVals msg)) (hG : Glob w) :
    Calls Tryd.prog 14 #[.agg #[.slice A sd.length c, .int .i64 many, .int .i64 used], .int .i64 idx, .slice B msg.length cb] w (fun e w' => ∃ A1 n1 c1 A2 n2 c2 A3 n3 c3, e = .returned (.tuple #[.agg #[.int .i64 (signF sd many used idx msg).index, .slice A1 n1 c1, .slice A2 n2 c2, .slice A3 n3 c3], .int .i64 (signE sd many used idx msg)]) ∧ Fl (fun b => w.heap.size ≤ b) w' 32 (.slice A1 n1 c1) n1 (digVals (signF sd many used idx msg).op) ∧ Fl (fun b => w.heap.size ≤ b) w' 32 (.slice A2 n2 c2) n2 (digVals (signF sd many used idx msg).cl) ∧ Fl (fun b => w.heap.size ≤ b) w' 32 (.slice A3 n3 c3) n3 (digVals (signF sd many used idx msg).path) ∧ Ext w w') := by
  have hc : Fl (Clip S w) w 1 (.slice A sd.length c) sd.length (byteVals sd) := hf.clip
  have hcc := (Fl.cel hc).2.1
  have hb : Fl (Clip S w) w 1 (.slice B msg.length cb) msg.length (byteVals msg) := hm.clip
  have hbc := (Fl.cel hb).2.1
  refine calls_enter (l := [(.agg #[(.slice A sd.length c), (.int .i64 many), (.int .i64 used)]), (.int .i64 idx), (.slice B msg.length cb)]) Tryd.func14 rfl rfl rfl (fun aA hF => ?_)
  refine wp_seq_k (fun K1 hK1 => ?_)
  refine wp_region_lit ?_
  refine wpl_op (i := 0) rfl (o_new (fun g => (.pointer (some ⟨g, 0, none⟩))) [(.slice A sd.length c), (.int .i64 many), (.int .i64 used)] 24 hF rfl rfl rfl rfl (rn_box (hF.get rfl) (by kernel_rfl)) ?_)
  intro g2 w3 a8 F9 z6 z7 b4 hx5; clear hF
  refine wpl_op (i := 1) rfl (o_new (fun g => (.pointer (some ⟨g, 0, none⟩))) [(.int .i64 0), (.slice none 0 0), (.slice none 0 0), (.slice none 0 0)] 30 F9 rfl rfl rfl rfl (by kernel_rfl) ?_)
  intro g10 w11 a16 F17 z14 z15 b12 hx13; clear F9
  refine qv 2 (.int .i64 0) F17 rfl (rn_assign rfl) fun _ F19 => ?_; clear F17
  refine wpList_nil ?_
  refine hK1 _ _ ?_
  clear hK1
  refine wp_seq_k (fun K20 hK20 => ?_)
  refine wp_block ?_
  refine wp_seq_k (fun K21 hK21 => ?_)
  refine wp_region_lit ?_
  have b22 := (b4.ext hx13)
  refine qv 0 (.agg #[(.slice A sd.length c), (.int .i64 many), (.int .i64 used)]) F19 rfl (rn_loadBlk (F19.get rfl) b22 Tryd.underlying24 rfl inf24) fun _ F24 => ?_; clear F19
  have d25 := ((hc.ext hx5).ext hx13)
  refine wpl_op (i := 1) rfl (o_call F24 rfl rfl rfl rfl (rn_call (args1 (F24.get rfl)) rfl (by kernel_rfl)) (valid_at (v := (.slice A sd.length c)) (m := sd.length) sd many used _ d25) ?_)
  rintro _ w26 ⟨rfl, hx27⟩
  refine ⟨_, rfl, ?_⟩; intro a28 F29; clear F24; have z30 := hx27.size
  refine qv 2 (.bool (!(kOk sd many used))) F29 rfl (rn_not' (F29.get rfl) rfl) fun _ F32 => ?_; clear F29
  refine qv 3 (.bool (!(kOk sd many used))) F32 rfl (rn_assign (F32.get rfl)) fun _ F34 => ?_; clear F32
  refine wpList_nil ?_
  refine hK21 _ _ ?_
  clear hK21
  rcases Bool.eq_false_or_eq_true (kOk sd many used) with hc35 | hc35
  · skip
    refine wp_cond_false (c_false F34 rfl (not_t hc35)) ?_
    refine wp_seq_k (fun K36 hK36 => ?_)
    refine wp_region_lit ?_
    refine qv 0 (.slice B msg.length cb) F34 rfl (rn_move (F34.get rfl)) fun _ F38 => ?_; clear F34
    refine qv 1 (.int .i64 (msg.length : Nat)) F38 rfl (rn_len_slice Tryd.underlying22 (F38.get rfl)) fun _ F40 => ?_; clear F38
    refine qv 2 (.bool (decide ((65536 : Int) < ((msg.length : Nat) : Int)))) F40 rfl (rn_gtr (F40.get rfl) rfl) fun _ F42 => ?_; clear F40
    refine qv 3 (.bool (decide ((65536 : Int) < ((msg.length : Nat) : Int)))) F42 rfl (rn_assign (F42.get rfl)) fun _ F44 => ?_; clear F42
    refine wpList_nil ?_
    refine hK36 _ _ ?_
    clear hK36
    have F45 := ((((((((F44.nil.c F44 17 rfl).c F44 12 rfl).c F44 7 rfl).c F44 6 rfl).c F44 3 rfl).c F44 2 rfl).c F44 1 rfl).c F44 0 rfl)
    clear F44
    by_cases hc46 : (65536 : Int) < ((msg.length : Nat) : Int)
    · skip
      refine wp_cond_true (c_true F45 rfl (decide_eq_true hc46)) ?_
      refine wp_seq_k (fun K47 hK47 => ?_)
      refine wp_region_lit ?_
      have b48 := (b12.ext hx27)
      refine qv 0 (.agg #[(.int .i64 0), (.slice none 0 0), (.slice none 0 0), (.slice none 0 0)]) F45 rfl (rn_loadBlk (F45.get rfl) b48 Tryd.underlying30 rfl inf30) fun _ F50 => ?_; clear F45
      refine wpl_op (i := 1) rfl (o_store (cells := [(.int .i64 0), (.slice none 0 0), (.slice none 0 0), (.slice none 0 0)]) F50 rfl rfl rfl rfl (F50.get rfl) (F50.get rfl) b48 inf30 rfl (by simp [Value.oneCell']) ?_)
      intro w51 b52 hg53; have z54 := hg53.size
      refine qv 2 (.int .i64 2) F50 rfl (rn_assign rfl) fun _ F56 => ?_; clear F50
      refine wpList_nil ?_
      refine hK47 _ _ ?_
      clear hK47
      refine wp_ret ?_
      refine ret_block ?_
      refine ret_then ?_
      refine retC1 F56 rfl rfl rfl b52 Tryd.underlying30 rfl inf30 ?_
      have he : signE sd many used idx msg = 2 := signE2 hc35 (by omega)
      have hn := signF_no he (by decide)
      exact ⟨none, 0, 0, none, 0, 0, none, 0, 0, by rw [he, hn]; rfl, by rw [hn]; exact Fl.nil _, by rw [hn]; exact Fl.nil _, by rw [hn]; exact Fl.nil _, (((((Ext.refl w).trans hx5).trans hx13).trans hx27).grownN hg53 (by omega))⟩
    · skip
      refine wp_cond_false (c_false F45 rfl (decide_eq_false hc46)) ?_
      refine wp_seq_k (fun K57 hK57 => ?_)
      refine wp_region_lit ?_
      refine qv 0 (.int .i64 idx) F45 rfl (rn_move (F45.get rfl)) fun _ F59 => ?_; clear F45
      refine qv 1 (.bool (decide ((idx : Int) < (0 : Int)))) F59 rfl (rn_lss (F59.get rfl) rfl) fun _ F61 => ?_; clear F59
      refine qv 2 (.bool (decide ((idx : Int) < (0 : Int)))) F61 rfl (rn_move (F61.get rfl)) fun _ F63 => ?_; clear F61
      by_cases hc64 : (idx : Int) < (0 : Int)
      · skip
        refine qu 3 F63 (decide_eq_true hc64) fun _ F66 => ?_; clear F63
        refine qu 4 F66 (decide_eq_true hc64) fun _ F68 => ?_; clear F66
        refine qu 5 F68 (decide_eq_true hc64) fun _ F70 => ?_; clear F68
        refine qu 6 F70 (decide_eq_true hc64) fun _ F72 => ?_; clear F70
        refine qv 7 (.bool true) F72 rfl (rn_pickT (c_true F72 rfl (decide_eq_true hc64)) rfl) fun _ F74 => ?_; clear F72
        refine qv 8 (.bool true) F74 rfl (rn_assign (F74.get rfl)) fun _ F76 => ?_; clear F74
        refine wpList_nil ?_
        refine hK57 _ _ ?_
        clear hK57
        have F77 := (((((((((F76.nil.c F76 22 rfl).c F76 17 rfl).c F76 12 rfl).c F76 7 rfl).c F76 6 rfl).c F76 3 rfl).c F76 2 rfl).c F76 1 rfl).c F76 0 rfl)
        clear F76
        refine wp_cond_true (c_true F77 rfl rfl) ?_
        refine wp_seq_k (fun K78 hK78 => ?_)
        refine wp_region_lit ?_
        have b79 := (b12.ext hx27)
        refine qv 0 (.agg #[(.int .i64 0), (.slice none 0 0), (.slice none 0 0), (.slice none 0 0)]) F77 rfl (rn_loadBlk (F77.get rfl) b79 Tryd.underlying30 rfl inf30) fun _ F81 => ?_; clear F77
        refine wpl_op (i := 1) rfl (o_store (cells := [(.int .i64 0), (.slice none 0 0), (.slice none 0 0), (.slice none 0 0)]) F81 rfl rfl rfl rfl (F81.get rfl) (F81.get rfl) b79 inf30 rfl (by simp [Value.oneCell']) ?_)
        intro w82 b83 hg84; have z85 := hg84.size
        refine qv 2 (.int .i64 40) F81 rfl (rn_assign rfl) fun _ F87 => ?_; clear F81
        refine wpList_nil ?_
        refine hK78 _ _ ?_
        clear hK78
        refine wp_ret ?_
        refine ret_block ?_
        refine ret_then ?_
        refine retC1 F87 rfl rfl rfl b83 Tryd.underlying30 rfl inf30 ?_
        have he : signE sd many used idx msg = 40 := signE3 hc35 (by omega) (by omega)
        have hn := signF_no he (by decide)
        exact ⟨none, 0, 0, none, 0, 0, none, 0, 0, by rw [he, hn]; rfl, by rw [hn]; exact Fl.nil _, by rw [hn]; exact Fl.nil _, by rw [hn]; exact Fl.nil _, (((((Ext.refl w).trans hx5).trans hx13).trans hx27).grownN hg84 (by omega))⟩
      · skip
        refine qg 3 (.int .i64 idx) F63 (decide_eq_false hc64) (rn_move (F63.get rfl)) fun _ F89 => ?_; clear F63
        refine qg 4 (.pointer (some ⟨g2, 1, none⟩)) F89 (decide_eq_false hc64) (rn_field Tryd.underlying24 rfl (by kernel_rfl) (F89.get rfl) rfl) fun _ F91 => ?_; clear F89
        have b92 := (b22.ext hx27)
        refine qg 5 (.int .i64 many) F91 (decide_eq_false hc64) (rn_load (isAgg_no Tryd.underlying3 rfl) (F91.get rfl) (b92.rule.1 1)) fun _ F94 => ?_; clear F91
        refine qg 6 (.bool (decide ((many : Int) ≤ (idx : Int)))) F94 (decide_eq_false hc64) (rn_geq (F94.get rfl) (F94.get rfl)) fun _ F96 => ?_; clear F94
        refine qv 7 (.bool (decide ((many : Int) ≤ (idx : Int)))) F96 rfl (rn_pickF (c_false F96 rfl (decide_eq_false hc64)) (F96.get rfl)) fun _ F98 => ?_; clear F96
        refine qv 8 (.bool (decide ((many : Int) ≤ (idx : Int)))) F98 rfl (rn_assign (F98.get rfl)) fun _ F100 => ?_; clear F98
        refine wpList_nil ?_
        refine hK57 _ _ ?_
        clear hK57
        have F101 := (((((((((F100.nil.c F100 22 rfl).c F100 17 rfl).c F100 12 rfl).c F100 7 rfl).c F100 6 rfl).c F100 3 rfl).c F100 2 rfl).c F100 1 rfl).c F100 0 rfl)
        clear F100
        by_cases hc102 : (many : Int) ≤ (idx : Int)
        · skip
          refine wp_cond_true (c_true F101 rfl (decide_eq_true hc102)) ?_
          refine wp_seq_k (fun K103 hK103 => ?_)
          refine wp_region_lit ?_
          have b104 := (b12.ext hx27)
          refine qv 0 (.agg #[(.int .i64 0), (.slice none 0 0), (.slice none 0 0), (.slice none 0 0)]) F101 rfl (rn_loadBlk (F101.get rfl) b104 Tryd.underlying30 rfl inf30) fun _ F106 => ?_; clear F101
          refine wpl_op (i := 1) rfl (o_store (cells := [(.int .i64 0), (.slice none 0 0), (.slice none 0 0), (.slice none 0 0)]) F106 rfl rfl rfl rfl (F106.get rfl) (F106.get rfl) b104 inf30 rfl (by simp [Value.oneCell']) ?_)
          intro w107 b108 hg109; have z110 := hg109.size
          refine qv 2 (.int .i64 40) F106 rfl (rn_assign rfl) fun _ F112 => ?_; clear F106
          refine wpList_nil ?_
          refine hK103 _ _ ?_
          clear hK103
          refine wp_ret ?_
          refine ret_block ?_
          refine ret_then ?_
          refine retC1 F112 rfl rfl rfl b108 Tryd.underlying30 rfl inf30 ?_
          have he : signE sd many used idx msg = 40 := signE3 hc35 (by omega) (by omega)
          have hn := signF_no he (by decide)
          exact ⟨none, 0, 0, none, 0, 0, none, 0, 0, by rw [he, hn]; rfl, by rw [hn]; exact Fl.nil _, by rw [hn]; exact Fl.nil _, by rw [hn]; exact Fl.nil _, (((((Ext.refl w).trans hx5).trans hx13).trans hx27).grownN hg109 (by omega))⟩
        · skip
          refine wp_cond_false (c_false F101 rfl (decide_eq_false hc102)) ?_
          refine wp_skip ?_
          refine hK20 _ _ ?_
          clear hK20
          refine wp_seq_k (fun K113 hK113 => ?_)
          have hko114 := kOk_iff.1 hc35
          refine wp_region_lit ?_
          refine qv 0 (.agg #[(.slice A sd.length c), (.int .i64 many), (.int .i64 used)]) F101 rfl (rn_loadBlk (F101.get rfl) b92 Tryd.underlying24 rfl inf24) fun _ F116 => ?_; clear F101
          have d117 := (((hc.ext hx5).ext hx13).ext hx27)
          refine wpl_op (i := 1) rfl (o_call F116 rfl rfl rfl rfl (rn_call (args1 (F116.get rfl)) rfl (by kernel_rfl)) (publics_int (v := (.slice A sd.length c)) (m := sd.length) sd many used _ d117 (hG.ext ((((Ext.refl w).trans hx5).trans hx13).trans hx27)) (by omega) (by omega) (by omega)) ?_)
          rintro _ w122 ⟨A118, c119, rfl, hf120, hx123⟩
          have z121 := (Fl.cel hf120).2.1
          refine ⟨_, rfl, ?_⟩; intro a124 F125; clear F116; have z126 := hx123.size
          have hf127 : Fl (Clip (fun b => w26.heap.size ≤ b) w122) w122 32 (.slice A118 ((many : Int).toNat) c119) ((many : Int).toNat) (digVals (pubsL sd ((many : Int).toNat))) := hf120.clip
          refine qv 2 (.slice A118 ((many : Int).toNat) c119) F125 rfl (rn_assign (F125.get rfl)) fun _ F129 => ?_; clear F125
          refine wpList_nil ?_
          refine hK113 _ _ ?_
          clear hK113
          refine wp_seq_k (fun K130 hK130 => ?_)
          refine wp_region_lit ?_
          refine qv 0 (.int .i64 idx) F129 rfl (rn_move (F129.get rfl)) fun _ F132 => ?_; clear F129
          refine qv 1 (.pointer (some ⟨g10, 0, none⟩)) F132 rfl (rn_field Tryd.underlying30 rfl (by kernel_rfl) (F132.get rfl) rfl) fun _ F134 => ?_; clear F132
          have b138 := ((b12.ext hx27).ext hx123)
          refine wpl_op (i := 2) rfl (o_store1 (new := [(.int .i64 idx), (.slice none 0 0), (.slice none 0 0), (.slice none 0 0)]) F134 rfl rfl rfl rfl (F134.get rfl) (F134.get rfl) b138 inf3 (by simp) rfl rfl ?_)
          intro w135 b136 hg137; have z139 := hg137.size
          refine wpList_nil ?_
          refine hK130 _ _ ?_
          clear hK130
          have F140 := ((((((((((F134.nil.c F134 8 rfl).c F134 22 rfl).c F134 17 rfl).c F134 12 rfl).c F134 7 rfl).c F134 6 rfl).c F134 3 rfl).c F134 2 rfl).c F134 1 rfl).c F134 0 rfl)
          clear F134
          refine wp_seq_k (fun K141 hK141 => ?_)
          refine wp_region_lit ?_
          refine qv 0 (.slice A118 ((many : Int).toNat) c119) F140 rfl (rn_move (F140.get rfl)) fun _ F143 => ?_; clear F140
          refine qv 1 (.int .i64 idx) F143 rfl (rn_move (F143.get rfl)) fun _ F145 => ?_; clear F143
          have d146 := (hf127.pres ((Pres.refl w122).grownN hg137 (fun h => by simp only [Clip] at h; omega)))
          refine wpl_op (i := 2) rfl (o_call F145 rfl rfl rfl rfl (rn_call (args2 (F145.get rfl) (F145.get rfl)) rfl (by kernel_rfl)) (path_at (pubsL sd ((many : Int).toNat)) idx _ (v := (.slice A118 ((many : Int).toNat) c119)) (n := (many : Int).toNat) (pubsL_32 _ _) d146 (hG.ext ((((((Ext.refl w).trans hx5).trans hx13).trans hx27).trans hx123).grownN hg137 (by omega))) (by omega)) ?_)
          rintro _ w154 ⟨A147, n148, c149, rfl, hf150, h32151, hx155⟩
          have z152 := (Fl.cel hf150).2.1
          have z153 := Fl.dlen hf150 h32151
          refine ⟨_, rfl, ?_⟩; intro a156 F157; clear F145; have z158 := hx155.size
          have hf159 : Fl (Clip (fun b => w135.heap.size ≤ b) w154) w154 32 (.slice A147 n148 c149) n148 (digVals ((pathF (pubsL sd ((many : Int).toNat)) idx).1)) := hf150.clip
          refine qv 3 (.tuple #[(.slice A147 n148 c149), (.int .i64 ((pathF (pubsL sd ((many : Int).toNat)) idx).2))]) F157 rfl (rn_move (F157.get rfl)) fun _ F161 => ?_; clear F157
          refine qv 4 (.slice A147 n148 c149) F161 rfl (rn_extract (F161.get rfl) rfl) fun _ F163 => ?_; clear F161
          refine qv 5 (.int .i64 ((pathF (pubsL sd ((many : Int).toNat)) idx).2)) F163 rfl (rn_extract (F163.get rfl) rfl) fun _ F165 => ?_; clear F163
          refine qv 6 (.pointer (some ⟨g10, 3, none⟩)) F165 rfl (rn_field Tryd.underlying30 rfl (by kernel_rfl) (F165.get rfl) rfl) fun _ F167 => ?_; clear F165
          have b171 := (b136.ext hx155)
          refine wpl_op (i := 7) rfl (o_store1 (new := [(.int .i64 idx), (.slice none 0 0), (.slice none 0 0), (.slice A147 n148 c149)]) F167 rfl rfl rfl rfl (F167.get rfl) (F167.get rfl) b171 inf28 (by simp) rfl rfl ?_)
          intro w168 b169 hg170; have z172 := hg170.size
          refine wpList_nil ?_
          refine hK141 _ _ ?_
          clear hK141
          have F173 := ((((((((((F167.nil.c F167 8 rfl).c F167 22 rfl).c F167 17 rfl).c F167 12 rfl).c F167 7 rfl).c F167 6 rfl).c F167 3 rfl).c F167 2 rfl).c F167 1 rfl).c F167 0 rfl)
          clear F167
          refine wp_seq_k (fun K174 hK174 => ?_)
          refine wp_region_lit ?_
          refine qv 0 (.pointer (some ⟨g2, 0, none⟩)) F173 rfl (rn_field Tryd.underlying24 rfl (by kernel_rfl) (F173.get rfl) rfl) fun _ F176 => ?_; clear F173
          have b177 := ((((b92.ext hx123).grownN hg137 (by omega)).ext hx155).grownN hg170 (by omega))
          refine qv 1 (.slice A sd.length c) F176 rfl (rn_load (isAgg_no Tryd.underlying22 rfl) (F176.get rfl) (b177.rule.1 0)) fun _ F179 => ?_; clear F176
          refine qv 2 (.int .i64 idx) F179 rfl (rn_move (F179.get rfl)) fun _ F181 => ?_; clear F179
          refine qv 3 (.agg #[(.slice A sd.length c), (.int .i64 idx)]) F181 rfl (rn_build (parts2 (F181.get rfl) (F181.get rfl)) (by kernel_rfl)) fun _ F183 => ?_; clear F181
          refine wpl_op (i := 4) rfl (o_new (fun g => (.pointer (some ⟨g, 0, none⟩))) [(.slice none 0 0), (.int .i64 0)] 58 F183 rfl rfl rfl rfl (by kernel_rfl) ?_)
          intro g184 w185 a190 F191 z188 z189 b186 hx187; clear F183
          refine wpl_op (i := 5) rfl (o_store (cells := [(.slice A sd.length c), (.int .i64 idx)]) F191 rfl rfl rfl rfl (F191.get rfl) (F191.get rfl) b186 inf58 rfl (by simp [Value.oneCell']) ?_)
          intro w192 b193 hg194; have z195 := hg194.size
          refine wpList_nil ?_
          refine hK174 _ _ ?_
          clear hK174
          have F196 := (((((((((((F191.nil.c F191 9 rfl).c F191 8 rfl).c F191 22 rfl).c F191 17 rfl).c F191 12 rfl).c F191 7 rfl).c F191 6 rfl).c F191 3 rfl).c F191 2 rfl).c F191 1 rfl).c F191 0 rfl)
          clear F191
          refine wp_seq_k (fun K197 hK197 => ?_)
          refine wp_seq_k (fun K198 hK198 => ?_)
          refine wp_region_lit ?_
          refine qv 0 (.slice A118 ((many : Int).toNat) c119) F196 rfl (rn_move (F196.get rfl)) fun _ F200 => ?_; clear F196
          have d201 := (hf127.pres ((((((Pres.refl w122).grownN hg137 (fun h => by simp only [Clip] at h; omega)).ext hx155).grownN hg170 (fun h => by simp only [Clip] at h; omega)).ext hx187).grownN hg194 (fun h => by simp only [Clip] at h; omega)))
          have hf202 := d201
          refine wpl_op (i := 1) rfl (o_call F200 rfl rfl rfl rfl (rn_call (args1 (F200.get rfl)) rfl (by kernel_rfl)) (tree_at (pubsL sd ((many : Int).toNat)) _ (n := (many : Int).toNat) (v := (.slice A118 ((many : Int).toNat) c119)) (pubsL_32 _ _) hf202 (hG.ext ((((((((((Ext.refl w).trans hx5).trans hx13).trans hx27).trans hx123).grownN hg137 (by omega)).trans hx155).grownN hg170 (by omega)).trans hx187).grownN hg194 (by omega)))) ?_)
          rintro _ w203 ⟨rfl, hx204⟩
          refine ⟨_, rfl, ?_⟩; intro a205 F206; clear F200; have z207 := hx204.size
          refine qv 2 (.int .i64 idx) F206 rfl (rn_move (F206.get rfl)) fun _ F209 => ?_; clear F206
          refine qv 3 (.slice B msg.length cb) F209 rfl (rn_move (F209.get rfl)) fun _ F211 => ?_; clear F209
          have d212 := (hb.pres (((((((((((Pres.refl w).ext hx5).ext hx13).ext hx27).ext hx123).grownN hg137 (fun h => by simp only [Clip] at h; omega)).ext hx155).grownN hg170 (fun h => by simp only [Clip] at h; omega)).ext hx187).grownN hg194 (fun h => by simp only [Clip] at h; omega)).ext hx204))
          have hi213 : (((idx : Int).toNat : Nat) : Int) = idx := by omega
          refine wpl_op (i := 4) rfl (o_call F211 rfl rfl rfl rfl (rn_call (args3 (F211.get rfl) (F211.get rfl) (F211.get rfl)) rfl (by kernel_rfl)) (signed_int (v := (.slice B msg.length cb)) (m := msg.length) (treeD (pubsL sd ((many : Int).toNat))) idx msg _ (treeD_len _) d212 (hG.ext (((((((((((Ext.refl w).trans hx5).trans hx13).trans hx27).trans hx123).grownN hg137 (by omega)).trans hx155).grownN hg170 (by omega)).trans hx187).grownN hg194 (by omega)).trans hx204)) (by omega) (by omega) (by omega)) ?_)
          rintro _ w214 ⟨rfl, hx215⟩
          refine ⟨_, rfl, ?_⟩; intro a216 F217; clear F211; have z218 := hx215.size
          refine qv 5 (.int .i64 0) F217 rfl (rn_move rfl) fun _ F220 => ?_; clear F217
          refine wpList_nil ?_
          refine hK198 _ _ ?_
          clear hK198
          have F221 := (((((((((((((F220.nil.c F220 52 rfl).c F220 51 rfl).c F220 9 rfl).c F220 8 rfl).c F220 22 rfl).c F220 17 rfl).c F220 12 rfl).c F220 7 rfl).c F220 6 rfl).c F220 3 rfl).c F220 2 rfl).c F220 1 rfl).c F220 0 rfl)
          clear F220
          refine wp_block ?_
          have d222 := (hf127.pres ((((((((Pres.refl w122).grownN hg137 (fun h => by simp only [Clip] at h; omega)).ext hx155).grownN hg170 (fun h => by simp only [Clip] at h; omega)).ext hx187).grownN hg194 (fun h => by simp only [Clip] at h; omega)).ext hx204).ext hx215))
          have d223 := (hf159.pres ((((((Pres.refl w154).grownN hg170 (fun h => by simp only [Clip] at h; omega)).ext hx187).grownN hg194 (fun h => by simp only [Clip] at h; omega)).ext hx204).ext hx215))
          have b224 := ((((b177.ext hx187).grownN hg194 (by omega)).ext hx204).ext hx215)
          have b225 := ((((b169.ext hx187).grownN hg194 (by omega)).ext hx204).ext hx215)
          have b226 := ((b193.ext hx204).ext hx215)
          refine wp_loop (fun a' W => ∃ (k : Nat) (Ao : Option Addr) (no : Nat) (co : Nat) (lo : List (List UInt8)) (Ac : Option Addr) (nc : Nat) (cc : Nat) (lc : List (List UInt8)), Sl 77 [(0, (.agg #[(.slice A sd.length c), (.int .i64 many), (.int .i64 used)])), (1, (.int .i64 idx)), (2, (.slice B msg.length cb)), (3, (.pointer (some ⟨g2, 0, none⟩))), (6, (.pointer (some ⟨g10, 0, none⟩))), (7, (.int .i64 0)), (12, (.bool (!(kOk sd many used)))), (17, (.bool (decide ((65536 : Int) < ((msg.length : Nat) : Int))))), (22, (.bool (decide ((many : Int) ≤ (idx : Int))))), (8, (.slice A118 ((many : Int).toNat) c119)), (9, (.pointer (some ⟨g184, 0, none⟩))), (51, (.agg (boolVals (bitsL (treeD (pubsL sd ((many : Int).toNat))) ((idx : Int).toNat) msg)).toArray)), (52, (.int .i64 (k : Nat)))] a' ∧ (k ≤ 64 ∧ no = k ∧ nc = k) ∧ lo = opTo sd (idx : Int).toNat (bitsL (treeD (pubsL sd ((many : Int).toNat))) (idx : Int).toNat msg) k ∧ lc = clTo sd (idx : Int).toNat (bitsL (treeD (pubsL sd ((many : Int).toNat))) (idx : Int).toNat msg) k ∧ Ext w W ∧ Blk W g2 24 [(.slice A sd.length c), (.int .i64 many), (.int .i64 used)] ∧ Blk W g10 30 [(.int .i64 idx), (.slice Ao no co), (.slice Ac nc cc), (.slice A147 n148 c149)] ∧ Blk W g184 58 [(.slice A sd.length c), (.int .i64 idx)] ∧ W.ownsRow w214.heap.size 37 32 (.slice Ao no co) no (digVals lo) ∧ W.ownsRow w214.heap.size 37 32 (.slice Ac nc cc) nc (digVals lc) ∧ Fl (Clip (fun b => w26.heap.size ≤ b) w122) W 32 (.slice A118 ((many : Int).toNat) c119) ((many : Int).toNat) (digVals (pubsL sd ((many : Int).toNat))) ∧ Fl (Clip (fun b => w135.heap.size ≤ b) w154) W 32 (.slice A147 n148 c149) n148 (digVals ((pathF (pubsL sd ((many : Int).toNat)) idx).1)) ∧ Apart (.slice Ao no co) (.slice Ac nc cc) ∧ w214.heap.size ≤ W.heap.size ∧ w214.heap.size ≤ W.heap.size ∧ w214.heap.size ≤ W.heap.size) (fun a' _ => 64 - (intOf (a'.eval (.tmp 52))).toNat) ⟨0, none, 0, 0, [], none, 0, 0, [], (((((((((((((F221.nil.cons (q_get F221 (t := 52) rfl (by first | rfl | (congr 1; omega) | (congr 1; done)))).cons (q_get F221 (t := 51) rfl rfl)).cons (q_get F221 (t := 9) rfl rfl)).cons (q_get F221 (t := 8) rfl rfl)).cons (q_get F221 (t := 22) rfl rfl)).cons (q_get F221 (t := 17) rfl rfl)).cons (q_get F221 (t := 12) rfl rfl)).cons (q_get F221 (t := 7) rfl rfl)).cons (q_get F221 (t := 6) rfl rfl)).cons (q_get F221 (t := 3) rfl rfl)).cons (q_get F221 (t := 2) rfl rfl)).cons (q_get F221 (t := 1) rfl rfl)).cons (q_get F221 (t := 0) rfl rfl)), ⟨by omega, by omega, by omega⟩, rfl, rfl, ((((((((((((Ext.refl w).trans hx5).trans hx13).trans hx27).trans hx123).grownN hg137 (by omega)).trans hx155).grownN hg170 (by omega)).trans hx187).grownN hg194 (by omega)).trans hx204).trans hx215), b224, b225, b226, (own_nil w214 w214.heap.size 37 32), (own_nil w214 w214.heap.size 37 32), d222, d223, (Apart.symm (Apart.nil (.slice none 0 0) 0 0)), (by omega), (by omega), (Nat.le_refl _)⟩ ?_
          clear F221
          rintro a227 w228 ⟨k, Ao, no, co, lo, Ac, nc, cc, lc, F229, hp231, hp232, hp233, hx230, b234, b235, b236, r237, r238, hf239, hf240, hf241, hf242, hf243, hf244⟩
          have hL245 := F229
          have z246 := hx230.size
          have z247 := b234.lt
          have z248 := b235.lt
          have z249 := b236.lt
          have z250 := own_form0 r237
          have z251 := own_form0 r238
          have hlo32 : All32 lo := by rw [hp232]; exact opTo_32 _ _ _ _
          have hlc32 : All32 lc := by rw [hp233]; exact clTo_32 _ _ _ _
          refine wp_seq_k (fun K252 hK252 => ?_)
          refine wp_region_lit ?_
          refine qv 0 (.bool (decide (((k : Nat) : Int) < (64 : Int)))) F229 rfl (rn_lss (F229.get rfl) rfl) fun _ F254 => ?_; clear F229
          refine wpList_nil ?_
          refine hK252 _ _ ?_
          clear hK252
          refine wp_seq_k (fun K255 hK255 => ?_)
          by_cases hc256 : ((k : Nat) : Int) < (64 : Int)
          · skip
            refine wp_cond_true (c_true F254 rfl (decide_eq_true hc256)) ?_
            refine wp_skip ?_
            refine hK255 _ _ ?_
            clear hK255
            refine wp_seq_k (fun K257 hK257 => ?_)
            refine wp_block ?_
            refine wp_seq_k (fun K258 hK258 => ?_)
            refine wp_region_lit ?_
            refine qv 0 (.int .i64 (k : Nat)) F254 rfl (rn_move (F254.get rfl)) fun _ F260 => ?_; clear F254
            refine qv 1 (.bool ((bitsL (treeD (pubsL sd ((many : Int).toNat))) ((idx : Int).toNat) msg).getD k false)) F260 rfl (rn_indexA1 Tryd.underlying60 Tryd.underlying4 rfl inf4 (F260.get rfl) (F260.get rfl) (by omega : (0 : Int) ≤ (k : Nat)) (by omega : ((k : Nat) : Int) < ((64 : Nat) : Int)) (by rw [Int.toNat_natCast, List.getElem?_toArray]; exact boolVals_at (l := bitsL (treeD (pubsL sd ((many : Int).toNat))) ((idx : Int).toNat) msg) (i := k) (by have := (bitsL_len (treeD (pubsL sd ((many : Int).toNat))) ((idx : Int).toNat) msg); omega))) fun _ F262 => ?_; clear F260
            refine qv 2 (.int .i64 (k : Nat)) F262 rfl (rn_assign (F262.get rfl)) fun _ F264 => ?_; clear F262
            refine qv 3 (.bool ((bitsL (treeD (pubsL sd ((many : Int).toNat))) ((idx : Int).toNat) msg).getD k false)) F264 rfl (rn_assign (F264.get rfl)) fun _ F266 => ?_; clear F264
            refine wpList_nil ?_
            refine hK258 _ _ ?_
            clear hK258
            refine wp_seq_k (fun K267 hK267 => ?_)
            have hx269 : ∃ W, w228.drew = W ∧ Ext w228 W := ⟨_, rfl, (Ext.refl _).drew⟩
            obtain ⟨w268, e270, hx269⟩ := hx269
            have z271 := hx269.size
            refine any_start (fun W => Ext w268 W ∧ Blk W g10 30 [(.int .i64 idx), (.slice Ao no co), (.slice Ac nc cc), (.slice A147 n148 c149)] ∧ Blk W g184 58 [(.slice A sd.length c), (.int .i64 idx)]) (fun i => i == 7 || i == 9) 10 #[false, false, false, false, false, false, false, false, false, false] rfl rfl rfl ?_
            rw [e270]; clear e270
            refine qp 0 (.pointer (some ⟨g10, 1, none⟩)) F266 rfl rfl (fun W => (rn_field Tryd.underlying30 rfl (by kernel_rfl) (F266.get rfl) rfl)) fun _ F273 => ?_; clear F266
            have b275 := (b235.ext hx269)
            have b276 := (b236.ext hx269)
            have hS274 : Ext w268 w268 ∧ Blk w268 g10 30 [(.int .i64 idx), (.slice Ao no co), (.slice Ac nc cc), (.slice A147 n148 c149)] ∧ Blk w268 g184 58 [(.slice A sd.length c), (.int .i64 idx)] := ⟨(Ext.refl w268), b275, b276⟩
            refine qs 1 (.slice Ao no co) F273 rfl rfl hS274 (fun W hW => (rn_load (isAgg_no Tryd.underlying28 rfl) (F273.get rfl) (hW.2.1.rule.1 1))) fun _ F278 => ?_; clear F273
            refine anyt_val (i := 2) (v := (.agg #[(.slice A sd.length c), (.int .i64 idx)])) [5, 6, 7, 8, 9] F278 (fun j hj => by simp at hj; first | (subst hj; decide) | (rcases hj with rfl | rfl <;> decide)) (by decide +kernel) (by decide +kernel) rfl rfl rfl rfl (fun _ _ _ _ h => h) rfl hS274 (fun W hW => (rn_loadBlk (F278.get rfl) hW.2.2 Tryd.underlying58 rfl inf58)) ?_
            intro a279 F280; clear F278
            refine qp 3 (.int .i64 (k : Nat)) F280 rfl rfl (fun W => (rn_move (F280.get rfl))) fun _ F282 => ?_; clear F280
            refine qp 4 (.bool ((bitsL (treeD (pubsL sd ((many : Int).toNat))) ((idx : Int).toNat) msg).getD k false)) F282 rfl rfl (fun W => (rn_move (F282.get rfl))) fun _ F284 => ?_; clear F282
            refine any_one (i := 5) (by decide +kernel) rfl ?_
            have d285 := ((hc.ext hx230).ext hx269)
            refine o_call F284 rfl rfl rfl rfl (rn_call (args3 (F284.get rfl) (F284.get rfl) (F284.get rfl)) rfl (by kernel_rfl)) (secret_int (v := (.slice A sd.length c)) (m := sd.length) sd idx k ((bitsL (treeD (pubsL sd ((many : Int).toNat))) ((idx : Int).toNat) msg).getD k false) _ d285 (hG.ext (((Ext.refl w).trans hx230).trans hx269)) (by omega) (by omega) (by omega) (by omega)) ?_
            rintro _ w286 ⟨rfl, hx287⟩
            refine ⟨_, rfl, ?_⟩; intro a288 F289; clear F284; have z290 := hx287.size
            have b291 := (b275.ext hx287)
            have b292 := (b276.ext hx287)
            refine ⟨fun _ _ => ⟨((Ext.refl w268).trans hx287), b291, b292⟩, ?_⟩
            refine any_one (i := 6) (by decide +kernel) rfl ?_
            have r293 := (own_ext (own_ext r237 hx269) hx287)
            have hf294 := r293
            have r295 := (own_ext (own_ext r238 hx269) hx287)
            have hf296 := r295
            refine o_new (fun g => (.slice (some ⟨g, 0, none⟩) 1 1)) (byteVals ((secretD sd (idx : Int).toNat k ((bitsL (treeD (pubsL sd ((many : Int).toNat))) ((idx : Int).toNat) msg).getD k false)))) 37 F289 rfl rfl rfl rfl (rn_buildSlice (parts1 (F289.get rfl)) (build_wholeE (vs := [(.agg (byteVals (secretD sd (idx : Int).toNat k ((bitsL (treeD (pubsL sd ((many : Int).toNat))) ((idx : Int).toNat) msg).getD k false))).toArray)]) El28 rfl rfl (fun v hv => by rw [List.mem_singleton.1 hv]; exact (byteVals_len (secretD_len _ _ _ _))) (by decide) (by decide) (by simp [Value.cells, byteVals]))) ?_
            intro g297 w298 a303 F304 z301 z302 b299 hx300; clear F289
            have nb305 := own_new (g := g297) hf294 (by omega)
            have nb306 := own_new (g := g297) hf296 (by omega)
            have b307 := (b291.ext hx300)
            have b308 := (b292.ext hx300)
            refine ⟨fun _ _ => ⟨(((Ext.refl w268).trans hx287).trans hx300), b307, b308⟩, ?_⟩
            refine any_one (i := 7) (by decide +kernel) rfl ?_
            have r309 := (own_ext r293 hx300)
            have hf318 := r309
            have nb319 : some g297 ≠ (Value.slice Ao no co).ownBlock := nb305
            have z320 := b299.lt
            have r321 := (own_ext r295 hx300)
            have hf322 := r321
            have ap323 : Apart (.slice Ac nc cc) (.slice Ao no co) := (Apart.symm hf241)
            refine o_appB (zs := digVals (lo ++ ([secretD sd (idx : Int).toNat k ((bitsL (treeD (pubsL sd ((many : Int).toNat))) ((idx : Int).toNat) msg).getD k false)]))) El28 F304 rfl rfl rfl rfl rfl (F304.get rfl) (F304.get rfl) hf318 (Fl.cel (Fl.digblk (S := fun b => b = g297) b299 (All32.sing (secretD_len _ _ _ _)) (by simp [digVals, byteVals]))).2.2 (by omega) (by omega) (by omega) (digVals_app _ _) ?_
            intro A310 c311 w312 a324 F325 r313 hg314 z315 z316 hnb317; clear F304; have z326 := hg314.size
            have nb327 := hnb317 g297 (by omega) nb319
            have ap328 := Apart.app hf322 ap323 hnb317
            refine ⟨fun h => absurd h (by decide), ?_⟩
            refine qp 8 (.pointer (some ⟨g10, 1, none⟩)) F325 rfl rfl (fun W => (rn_field Tryd.underlying30 rfl (by kernel_rfl) (F325.get rfl) rfl)) fun _ F330 => ?_; clear F325
            refine any_one (i := 9) (by decide +kernel) rfl ?_
            have b334 := (grown_blk hf318 hg314 b307 (by decide))
            refine o_store1 (new := [(.int .i64 idx), (.slice A310 (no + 1) c311), (.slice Ac nc cc), (.slice A147 n148 c149)]) F330 rfl rfl rfl rfl (F330.get rfl) (F330.get rfl) b334 inf28 (by simp) rfl rfl ?_
            intro w331 b332 hg333; have z335 := hg333.size
            refine ⟨fun h => absurd h (by decide), ?_⟩
            refine any_nil (by decide +kernel) ?_
            refine hK267 _ _ ?_
            clear hK267
            have F336 := ((((((((((((((((F330.nil.c F330 11 rfl).c F330 10 rfl).c F330 53 rfl).c F330 52 rfl).c F330 51 rfl).c F330 9 rfl).c F330 8 rfl).c F330 22 rfl).c F330 17 rfl).c F330 12 rfl).c F330 7 rfl).c F330 6 rfl).c F330 3 rfl).c F330 2 rfl).c F330 1 rfl).c F330 0 rfl)
            clear F330
            have hx338 : ∃ W, w331.drew = W ∧ Ext w331 W := ⟨_, rfl, (Ext.refl _).drew⟩
            obtain ⟨w337, e339, hx338⟩ := hx338
            have z340 := hx338.size
            refine any_start (fun W => Ext w337 W ∧ Blk W g10 30 [(.int .i64 idx), (.slice A310 (no + 1) c311), (.slice Ac nc cc), (.slice A147 n148 c149)] ∧ Blk W g184 58 [(.slice A sd.length c), (.int .i64 idx)]) (fun i => i == 8 || i == 10) 11 #[false, false, false, false, false, false, false, false, false, false, false] rfl rfl rfl ?_
            rw [e339]; clear e339
            refine qp 0 (.pointer (some ⟨g10, 2, none⟩)) F336 rfl rfl (fun W => (rn_field Tryd.underlying30 rfl (by kernel_rfl) (F336.get rfl) rfl)) fun _ F342 => ?_; clear F336
            have b344 := (b332.ext hx338)
            have b345 := (((grown_blk hf318 hg314 b308 (by decide)).grownN hg333 (by omega)).ext hx338)
            have hS343 : Ext w337 w337 ∧ Blk w337 g10 30 [(.int .i64 idx), (.slice A310 (no + 1) c311), (.slice Ac nc cc), (.slice A147 n148 c149)] ∧ Blk w337 g184 58 [(.slice A sd.length c), (.int .i64 idx)] := ⟨(Ext.refl w337), b344, b345⟩
            refine qs 1 (.slice Ac nc cc) F342 rfl rfl hS343 (fun W hW => (rn_load (isAgg_no Tryd.underlying28 rfl) (F342.get rfl) (hW.2.1.rule.1 2))) fun _ F347 => ?_; clear F342
            refine anyt_val (i := 2) (v := (.agg #[(.slice A sd.length c), (.int .i64 idx)])) [6, 7, 8, 9, 10] F347 (fun j hj => by simp at hj; first | (subst hj; decide) | (rcases hj with rfl | rfl <;> decide)) (by decide +kernel) (by decide +kernel) rfl rfl rfl rfl (fun _ _ _ _ h => h) rfl hS343 (fun W hW => (rn_loadBlk (F347.get rfl) hW.2.2 Tryd.underlying58 rfl inf58)) ?_
            intro a348 F349; clear F347
            refine qp 3 (.int .i64 (k : Nat)) F349 rfl rfl (fun W => (rn_move (F349.get rfl))) fun _ F351 => ?_; clear F349
            refine qp 4 (.bool ((bitsL (treeD (pubsL sd ((many : Int).toNat))) ((idx : Int).toNat) msg).getD k false)) F351 rfl rfl (fun W => (rn_move (F351.get rfl))) fun _ F353 => ?_; clear F351
            refine qp 5 (.bool (!((bitsL (treeD (pubsL sd ((many : Int).toNat))) ((idx : Int).toNat) msg).getD k false))) F353 rfl rfl (fun W => (rn_not' (F353.get rfl) rfl)) fun _ F355 => ?_; clear F353
            refine any_one (i := 6) (by decide +kernel) rfl ?_
            have d356 := (hc.pres (((Pres.row (((((Pres.refl w).ext hx230).ext hx269).ext hx287).ext hx300) hg314 hf318 (fun b hb h => by simp only [Clip] at h; omega)).grownN hg333 (fun h => by simp only [Clip] at h; omega)).ext hx338))
            refine o_call F355 rfl rfl rfl rfl (rn_call (args3 (F355.get rfl) (F355.get rfl) (F355.get rfl)) rfl (by kernel_rfl)) (hash_int (v := (.slice A sd.length c)) (m := sd.length) sd idx k (!((bitsL (treeD (pubsL sd ((many : Int).toNat))) ((idx : Int).toNat) msg).getD k false)) _ d356 (hG.ext (((ext_row (((((Ext.refl w).trans hx230).trans hx269).trans hx287).trans hx300) hg314 hf318 (by omega)).grownN hg333 (by omega)).trans hx338)) (by omega) (by omega) (by omega) (by omega)) ?_
            rintro _ w357 ⟨rfl, hx358⟩
            refine ⟨_, rfl, ?_⟩; intro a359 F360; clear F355; have z361 := hx358.size
            have b362 := (b344.ext hx358)
            have b363 := (b345.ext hx358)
            refine ⟨fun _ _ => ⟨((Ext.refl w337).trans hx358), b362, b363⟩, ?_⟩
            refine any_one (i := 7) (by decide +kernel) rfl ?_
            have r364 := (own_ext (own_ext (own_grownT r313 b334 hg333 (by decide)) hx338) hx358)
            have hf365 := r364
            have r366 := (own_ext (own_ext (own_grownT (own_grownR r321 hg314 ap323) b334 hg333 (by decide)) hx338) hx358)
            have hf367 := r366
            refine o_new (fun g => (.slice (some ⟨g, 0, none⟩) 1 1)) (byteVals ((hashD sd (idx : Int).toNat k (!((bitsL (treeD (pubsL sd ((many : Int).toNat))) ((idx : Int).toNat) msg).getD k false))))) 37 F360 rfl rfl rfl rfl (rn_buildSlice (parts1 (F360.get rfl)) (build_wholeE (vs := [(.agg (byteVals (hashD sd (idx : Int).toNat k (!((bitsL (treeD (pubsL sd ((many : Int).toNat))) ((idx : Int).toNat) msg).getD k false)))).toArray)]) El28 rfl rfl (fun v hv => by rw [List.mem_singleton.1 hv]; exact (byteVals_len (hashD_len _ _ _ _))) (by decide) (by decide) (by simp [Value.cells, byteVals]))) ?_
            intro g368 w369 a374 F375 z372 z373 b370 hx371; clear F360
            have nb376 := own_new (g := g368) hf365 (by omega)
            have nb377 := own_new (g := g368) hf367 (by omega)
            have b378 := (b362.ext hx371)
            have b379 := (b363.ext hx371)
            refine ⟨fun _ _ => ⟨(((Ext.refl w337).trans hx358).trans hx371), b378, b379⟩, ?_⟩
            refine any_one (i := 8) (by decide +kernel) rfl ?_
            have r380 := (own_ext r366 hx371)
            have hf389 := r380
            have b390 := (((((b299.grown hg314 nb319).grownN hg333 (by omega)).ext hx338).ext hx358).ext hx371)
            have nb391 : some g297 ≠ (Value.slice Ac nc cc).ownBlock := nb306
            have z392 := b390.lt
            have nb393 : some g368 ≠ (Value.slice Ac nc cc).ownBlock := nb377
            have z394 := b370.lt
            have r395 := (own_ext r364 hx371)
            have hf396 := r395
            have ap397 : Apart (.slice A310 (no + 1) c311) (.slice Ac nc cc) := (Apart.symm ap328)
            refine o_appB (zs := digVals (lc ++ ([hashD sd (idx : Int).toNat k (!((bitsL (treeD (pubsL sd ((many : Int).toNat))) ((idx : Int).toNat) msg).getD k false))]))) El28 F375 rfl rfl rfl rfl rfl (F375.get rfl) (F375.get rfl) hf389 (Fl.cel (Fl.digblk (S := fun b => b = g368) b370 (All32.sing (hashD_len _ _ _ _)) (by simp [digVals, byteVals]))).2.2 (by omega) (by omega) (by omega) (digVals_app _ _) ?_
            intro A381 c382 w383 a398 F399 r384 hg385 z386 z387 hnb388; clear F375; have z400 := hg385.size
            have nb401 := hnb388 g297 (by omega) nb391
            have nb402 := hnb388 g368 (by omega) nb393
            have ap403 := Apart.app hf396 ap397 hnb388
            refine ⟨fun h => absurd h (by decide), ?_⟩
            refine qp 9 (.pointer (some ⟨g10, 2, none⟩)) F399 rfl rfl (fun W => (rn_field Tryd.underlying30 rfl (by kernel_rfl) (F399.get rfl) rfl)) fun _ F405 => ?_; clear F399
            refine any_one (i := 10) (by decide +kernel) rfl ?_
            have b409 := (grown_blk hf389 hg385 b378 (by decide))
            refine o_store1 (new := [(.int .i64 idx), (.slice A310 (no + 1) c311), (.slice A381 (nc + 1) c382), (.slice A147 n148 c149)]) F405 rfl rfl rfl rfl (F405.get rfl) (F405.get rfl) b409 inf28 (by simp) rfl rfl ?_
            intro w406 b407 hg408; have z410 := hg408.size
            refine ⟨fun h => absurd h (by decide), ?_⟩
            refine any_nil (by decide +kernel) ?_
            refine hK257 _ _ ?_
            clear hK257
            have F411 := ((((((((((((((((F405.nil.c F405 11 rfl).c F405 10 rfl).c F405 53 rfl).c F405 52 rfl).c F405 51 rfl).c F405 9 rfl).c F405 8 rfl).c F405 22 rfl).c F405 17 rfl).c F405 12 rfl).c F405 7 rfl).c F405 6 rfl).c F405 3 rfl).c F405 2 rfl).c F405 1 rfl).c F405 0 rfl)
            clear F405
            refine wp_region_lit ?_
            refine qv 0 (.int .i64 (k + 1 : Nat)) F411 rfl (rn_addN (a := k) (b := 1) (F411.get rfl) rfl (by omega)) fun _ F413 => ?_; clear F411
            refine qv 1 (.int .i64 (k + 1 : Nat)) F413 rfl (rn_move (F413.get rfl)) fun _ F415 => ?_; clear F413
            refine wpList_nil ?_
            have d416 := (hf239.pres ((Pres.row (((((Pres.row ((((Pres.refl w228).ext hx269).ext hx287).ext hx300) hg314 hf318 (fun b hb h => by simp only [Clip] at h; omega)).grownN hg333 (fun h => by simp only [Clip] at h; omega)).ext hx338).ext hx358).ext hx371) hg385 hf389 (fun b hb h => by simp only [Clip] at h; omega)).grownN hg408 (fun h => by simp only [Clip] at h; omega)))
            have d417 := (hf240.pres ((Pres.row (((((Pres.row ((((Pres.refl w228).ext hx269).ext hx287).ext hx300) hg314 hf318 (fun b hb h => by simp only [Clip] at h; omega)).grownN hg333 (fun h => by simp only [Clip] at h; omega)).ext hx338).ext hx358).ext hx371) hg385 hf389 (fun b hb h => by simp only [Clip] at h; omega)).grownN hg408 (fun h => by simp only [Clip] at h; omega)))
            have b418 := ((grown_blk hf389 hg385 (((((grown_blk hf318 hg314 (((b234.ext hx269).ext hx287).ext hx300) (by decide)).grownN hg333 (by omega)).ext hx338).ext hx358).ext hx371) (by decide)).grownN hg408 (by omega))
            have b419 := ((grown_blk hf389 hg385 b379 (by decide)).grownN hg408 (by omega))
            have r420 := (own_grownT (own_grownR r395 hg385 ap397) b409 hg408 (by decide))
            have r421 := (own_grownT r384 b409 hg408 (by decide))
            refine ⟨⟨(k + 1), A310, no + 1, c311, lo ++ ([secretD sd (idx : Int).toNat k ((bitsL (treeD (pubsL sd ((many : Int).toNat))) ((idx : Int).toNat) msg).getD k false)]), A381, nc + 1, c382, lc ++ ([hashD sd (idx : Int).toNat k (!((bitsL (treeD (pubsL sd ((many : Int).toNat))) ((idx : Int).toNat) msg).getD k false))]), (((((((((((((F415.nil.cons (q_get F415 (t := 52) rfl (by first | rfl | (congr 1; omega) | (congr 1; done)))).cons (q_get F415 (t := 51) rfl rfl)).cons (q_get F415 (t := 9) rfl rfl)).cons (q_get F415 (t := 8) rfl rfl)).cons (q_get F415 (t := 22) rfl rfl)).cons (q_get F415 (t := 17) rfl rfl)).cons (q_get F415 (t := 12) rfl rfl)).cons (q_get F415 (t := 7) rfl rfl)).cons (q_get F415 (t := 6) rfl rfl)).cons (q_get F415 (t := 3) rfl rfl)).cons (q_get F415 (t := 2) rfl rfl)).cons (q_get F415 (t := 1) rfl rfl)).cons (q_get F415 (t := 0) rfl rfl)), ⟨by omega, by omega, by omega⟩, (opTo_step' hp232 rfl), (clTo_step' hp233 rfl rfl), ((ext_row (((((ext_row (((((Ext.refl w).trans hx230).trans hx269).trans hx287).trans hx300) hg314 hf318 (by omega)).grownN hg333 (by omega)).trans hx338).trans hx358).trans hx371) hg385 hf389 (by omega)).grownN hg408 (by omega)), b418, b407, b419, r420, r421, d416, d417, ap403, (by omega), (by omega), (by omega)⟩, ?_⟩
            rw [F415.get (t := 52) rfl, hL245.get (t := 52) rfl]; simp [intOf] <;> omega
          · skip
            refine wp_cond_false (c_false F254 rfl (decide_eq_false hc256)) ?_
            refine wp_exit ?_
            refine exit_then ?_
            refine exit_then ?_
            refine exit_here ?_
            refine hK197 _ _ ?_
            clear hK197
            refine wp_seq_k (fun K422 hK422 => ?_)
            refine wp_region_lit ?_
            refine qv 0 (.agg #[(.int .i64 idx), (.slice Ao no co), (.slice Ac nc cc), (.slice A147 n148 c149)]) F254 rfl (rn_loadBlk (F254.get rfl) b235 Tryd.underlying30 rfl inf30) fun _ F424 => ?_; clear F254
            refine wpl_op (i := 1) rfl (o_store (cells := [(.int .i64 idx), (.slice Ao no co), (.slice Ac nc cc), (.slice A147 n148 c149)]) F424 rfl rfl rfl rfl (F424.get rfl) (F424.get rfl) b235 inf30 rfl (by simp [Value.oneCell']) ?_)
            intro w425 b426 hg427; have z428 := hg427.size
            refine qv 2 (.int .i64 0) F424 rfl (rn_assign rfl) fun _ F430 => ?_; clear F424
            refine wpList_nil ?_
            refine hK422 _ _ ?_
            clear hK422
            refine wp_ret ?_
            refine retC1 F430 rfl rfl rfl b426 Tryd.underlying30 rfl inf30 ?_
            have hk : k = 64 := by omega
            have ho := hp232
            have hcl := hp233
            rw [hk] at ho hcl
            have he := signE4 (idx := idx) (msg := msg) hc35 (by omega) (by omega)
            have hn := signF_yes (idx := idx) (msg := msg) hc35 (by omega) (by omega)
            rw [← ho, ← hcl] at hn
            have r431 := (own_grownT r237 b235 hg427 (by decide))
            have r432 := (own_grownT r238 b235 hg427 (by decide))
            have d433 := (hf240.pres ((Pres.refl w228).grownN hg427 (fun h => by simp only [Clip] at h; omega)))
            exact ⟨_, _, _, _, _, _, _, _, _, by rw [he, hn], by rw [hn]; exact Fl.sub (Fl.own (S := fun b => w214.heap.size ≤ b) r431 (fun b hb => hb) (digVals_one _)) (fun b hb => by first | omega | (simp only [Clip] at hb; omega)), by rw [hn]; exact Fl.sub (Fl.own (S := fun b => w214.heap.size ≤ b) r432 (fun b hb => hb) (digVals_one _)) (fun b hb => by first | omega | (simp only [Clip] at hb; omega)), by rw [hn]; exact Fl.sub d433 (fun b hb => by first | omega | (simp only [Clip] at hb; omega)), (((Ext.refl w).trans hx230).grownN hg427 (by omega))⟩
  · skip
    refine wp_cond_true (c_true F34 rfl (not_f hc35)) ?_
    refine wp_seq_k (fun K434 hK434 => ?_)
    refine wp_region_lit ?_
    have b435 := (b12.ext hx27)
    refine qv 0 (.agg #[(.int .i64 0), (.slice none 0 0), (.slice none 0 0), (.slice none 0 0)]) F34 rfl (rn_loadBlk (F34.get rfl) b435 Tryd.underlying30 rfl inf30) fun _ F437 => ?_; clear F34
    refine wpl_op (i := 1) rfl (o_store (cells := [(.int .i64 0), (.slice none 0 0), (.slice none 0 0), (.slice none 0 0)]) F437 rfl rfl rfl rfl (F437.get rfl) (F437.get rfl) b435 inf30 rfl (by simp [Value.oneCell']) ?_)
    intro w438 b439 hg440; have z441 := hg440.size
    refine qv 2 (.int .i64 40) F437 rfl (rn_assign rfl) fun _ F443 => ?_; clear F437
    refine wpList_nil ?_
    refine hK434 _ _ ?_
    clear hK434
    have F444 := (((((((F443.nil.c F443 12 rfl).c F443 7 rfl).c F443 6 rfl).c F443 3 rfl).c F443 2 rfl).c F443 1 rfl).c F443 0 rfl)
    clear F443
    refine wp_ret ?_
    refine ret_block ?_
    refine ret_then ?_
    refine retC1 F444 rfl rfl rfl b439 Tryd.underlying30 rfl inf30 ?_
    have he : signE sd many used idx msg = 40 := signE1 hc35
    have hn := signF_no he (by decide)
    exact ⟨none, 0, 0, none, 0, 0, none, 0, 0, by rw [he, hn]; rfl, by rw [hn]; exact Fl.nil _, by rw [hn]; exact Fl.nil _, by rw [hn]; exact Fl.nil _, (((((Ext.refl w).trans hx5).trans hx13).trans hx27).grownN hg440 (by omega))⟩

theorem sign_at {S2 : Nat → Prop} {v u : Value} {m n : Nat} (sd : List UInt8) (many used idx : Int) (msg : List UInt8) (w : World) (hf : Fl S w 1 v m (byteVals sd)) (hm : Fl S2 w 1 u n (byteVals msg)) (hG : Glob w) :
    Calls Tryd.prog 14 #[.agg #[v, .int .i64 many, .int .i64 used], .int .i64 idx, u] w (fun e w' => ∃ A1 n1 c1 A2 n2 c2 A3 n3 c3, e = .returned (.tuple #[.agg #[.int .i64 (signF sd many used idx msg).index, .slice A1 n1 c1, .slice A2 n2 c2, .slice A3 n3 c3], .int .i64 (signE sd many used idx msg)]) ∧ Fl (fun b => w.heap.size ≤ b) w' 32 (.slice A1 n1 c1) n1 (digVals (signF sd many used idx msg).op) ∧ Fl (fun b => w.heap.size ≤ b) w' 32 (.slice A2 n2 c2) n2 (digVals (signF sd many used idx msg).cl) ∧ Fl (fun b => w.heap.size ≤ b) w' 32 (.slice A3 n3 c3) n3 (digVals (signF sd many used idx msg).path) ∧ Ext w w') := by
  have h1 := hf.blen
  have h2 := hm.blen
  subst h1
  subst h2
  obtain ⟨A, c, rfl, _⟩ := hf.form
  obtain ⟨B, cb, rfl, _⟩ := hm.form
  exact sign_any (S := fun _ => True) A c sd many used idx B cb msg w (hf.sub fun _ _ => trivial) (hm.sub fun _ _ => trivial) hG

end Go.Proofs.YtmjgjopbeokajaaDoor
