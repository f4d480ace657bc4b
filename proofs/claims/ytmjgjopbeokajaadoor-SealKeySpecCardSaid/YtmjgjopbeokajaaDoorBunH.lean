/- Several texts in one: SealC, CloneB, SealD, SealE, SealF. -/
import Derived.Test.YtmjgjopbeokajaaDoorProg
import Derived.Test.YtmjgjopbeokajaaDoorBunG
import Derived.KernelRfl
import Derived.Test.YtmjgjopbeokajaaDoorBunA
import Derived.Test.YtmjgjopbeokajaaDoorBunB
import Derived.Test.YtmjgjopbeokajaaDoorBunC
import Derived.WalkSpells
import Derived.Handy
namespace Go.Proofs.YtmjgjopbeokajaaDoor
open Go.RowKit

variable {S S' : Nat → Prop}

set_option maxRecDepth 100000 in
set_option maxHeartbeats 1000000 in
theorem secret_any (A : Option Addr) (c : Nat) (sd : List UInt8) (i j : Nat) (b : Bool) (w : World) (hf : Fl S w 1 (.slice A sd.length c) sd.length (byteVals sd)) (hG : Glob w) (hsd : sd.length ≤ 4194304) (hi : i < 65536) (hj : j < 256) :
    Calls Tryd.prog 35 #[.agg #[.slice A sd.length c, .int .i64 (i : Nat)], .int .i64 (j : Nat), .bool b] w (fun e w' => e = .returned (.agg (byteVals (secretD sd i j b)).toArray) ∧ Ext w w') := by
  have hc : Fl (Clip S w) w 1 (.slice A sd.length c) sd.length (byteVals sd) := hf.clip
  have hcc := (Fl.cel hc).2.1
  refine calls_enter (l := [(.agg #[(.slice A sd.length c), (.int .i64 (i : Nat))]), (.int .i64 (j : Nat)), (.bool b)]) Tryd.func35 rfl rfl rfl (fun aA hF => ?_)
  refine wp_seq_k (fun K1 hK1 => ?_)
  refine wp_region_lit ?_
  refine wpl_op (i := 0) rfl (o_new (fun g => (.pointer (some ⟨g, 0, none⟩))) [(.slice A sd.length c), (.int .i64 (i : Nat))] 58 hF rfl rfl rfl rfl (rn_box (hF.get rfl) (by kernel_rfl)) ?_)
  intro g2 w3 a8 F9 z6 z7 b4 hx5; clear hF
  refine wpl_op (i := 1) rfl (o_new (fun g => (.pointer (some ⟨g, 0, none⟩))) (byteVals (List.replicate 32 0)) 37 F9 rfl rfl rfl rfl (by kernel_rfl) ?_)
  intro g10 w11 a16 F17 z14 z15 b12 hx13; clear F9
  refine wpList_nil ?_
  refine hK1 _ _ ?_
  clear hK1
  refine wp_seq_k (fun K18 hK18 => ?_)
  refine wp_region_lit ?_
  refine qv 0 (.int .u8 0) F17 rfl (rn_assign rfl) fun _ F20 => ?_; clear F17
  refine wpList_nil ?_
  refine hK18 _ _ ?_
  clear hK18
  refine wp_seq_k (fun K21 hK21 => ?_)
  refine wp_seq_k (fun K22 hK22 => ?_)
  refine wp_region_lit ?_
  refine qv 0 (.bool b) F20 rfl (rn_move (F20.get rfl)) fun _ F24 => ?_; clear F20
  refine wpList_nil ?_
  refine hK22 _ _ ?_
  clear hK22
  rcases Bool.eq_false_or_eq_true b with hc25 | hc25
  · skip
    refine wp_cond_true (c_true F24 rfl hc25) ?_
    refine wp_region_lit ?_
    refine qv 0 (.int .u8 1) F24 rfl (rn_assign rfl) fun _ F27 => ?_; clear F24
    refine wpList_nil ?_
    refine hK21 _ _ ?_
    clear hK21
    refine wp_seq_k (fun K28 hK28 => ?_)
    have hx30 : ∃ W, w11.drew = W ∧ Ext w11 W := ⟨_, rfl, (Ext.refl _).drew⟩
    obtain ⟨w29, e31, hx30⟩ := hx30
    have z32 := hx30.size
    refine any_start (fun W => Ext w29 W ∧ Blk W g2 58 [(.slice A sd.length c), (.int .i64 (i : Nat))] ∧ Blk W g10 37 (byteVals (List.replicate 32 0))) (fun i => i == 12) 13 #[false, false, false, false, false, false, false, false, false, false, false, false, false] rfl rfl rfl ?_
    rw [e31]; clear e31
    refine any_have (n1 := 4) (L1 := #[true, true, true, true, true, true, true, true, true, false, false, false, false]) (fun a' W => ∃ (A50 : Option Addr) (c51 : Nat) (g72 : Nat), Sl 21 [(0, (.agg #[(.slice A sd.length c), (.int .i64 (i : Nat))])), (1, (.int .i64 (j : Nat))), (2, (.bool b)), (3, (.pointer (some ⟨g2, 0, none⟩))), (6, (.pointer (some ⟨g10, 0, none⟩))), (7, (.int .u8 1)), (8, (.bool b)), (10, (.slice A sd.length c)), (13, (.slice A50 2 c51)), (17, (.slice (some ⟨g72, 0, none⟩) 2 2))] a' ∧ Ext w29 W ∧ Blk W g72 5 [(.int .u8 ((UInt8.ofNat j).toNat : Nat)), (.int .u8 1)] ∧ w29.heap.size ≤ g72 ∧ Fl (fun b => w29.heap.size ≤ b) W 1 (.slice A50 2 c51) 2 (byteVals (two i))) ?_ (fun st120 => ?_)
    · skip
      rintro a121 w122 ⟨A50, c51, g72, F123, hx124, b125, z126, hf127⟩
      clear F27
      have z128 := hx124.size
      have z129 := b125.lt
      have z130 := (Fl.cel hf127).2.1
      have z131 := Fl.blen hf127
      refine any_one (i := 9) (by decide +kernel) rfl ?_
      refine o_new (fun g => (.slice (some ⟨g, 0, none⟩) 3 3)) [(.slice A sd.length c), (.slice A50 2 c51), (.slice (some ⟨g72, 0, none⟩) 2 2)] 22 F123 rfl rfl rfl rfl (rn_buildSlice (parts3 (F123.get rfl) (F123.get rfl) (F123.get rfl)) (by kernel_rfl)) ?_
      intro g132 w133 a138 F139 z136 z137 b134 hx135; clear F123
      have b140 := ((((b4.ext hx13).ext hx30).ext hx124).ext hx135)
      have b141 := (((b12.ext hx30).ext hx124).ext hx135)
      refine ⟨fun _ _ => ⟨(((Ext.refl w29).trans hx124).trans hx135), b140, b141⟩, ?_⟩
      refine any_one (i := 10) (by decide +kernel) rfl ?_
      have d142 := (((((hc.ext hx5).ext hx13).ext hx30).ext hx124).ext hx135)
      have d143 := (hf127.ext hx135)
      have b144 := (b125.ext hx135)
      have hn148 := Fl.blen d142
      have hn149 := Fl.blen d143
      have hn150 := Fl.blen (Fl.blk (S := fun b => b = g72) (k := 1) (n := 2) (c := 2) (cs := byteVals [(UInt8.ofNat j), (1 : UInt8)]) b144 rfl (byteVals_one _) (by omega) rfl)
      have hn151 : ([sd, two i, [(UInt8.ofNat j), (1 : UInt8)]]).flatten.length = sd.length + 2 + 2 := by simp only [List.flatten_cons, List.flatten_nil, List.length_append, List.length_nil]; omega
      refine o_call F139 rfl rfl rfl rfl (rn_call (args1 (F139.get rfl)) rfl (by kernel_rfl)) (concat_at [sd, two i, [(UInt8.ofNat j), (1 : UInt8)]] _ (RBss.three b134 d142 d143 (Fl.blk (S := fun b => b = g72) (k := 1) (n := 2) (c := 2) (cs := byteVals [(UInt8.ofNat j), (1 : UInt8)]) b144 rfl (byteVals_one _) (by omega) rfl)) hn151 (by omega)) ?_
      rintro _ w152 ⟨A145, c146, rfl, hf147, hx153⟩
      rw [show ([sd, two i, [(UInt8.ofNat j), (1 : UInt8)]]).flatten = sd ++ (two i) ++ ([(UInt8.ofNat j), (1 : UInt8)]) from by simp] at hf147
      refine ⟨_, rfl, ?_⟩; intro a154 F155; clear F139; have z156 := hx153.size
      have b157 := (b140.ext hx153)
      have b158 := (b141.ext hx153)
      refine ⟨fun _ _ => ⟨((((Ext.refl w29).trans hx124).trans hx135).trans hx153), b157, b158⟩, ?_⟩
      refine any_one (i := 11) (by decide +kernel) rfl ?_
      refine o_call F155 rfl rfl rfl rfl (rn_call (args2 rfl (F155.get rfl)) rfl (by kernel_rfl)) (tagged_at ([115, 101, 99, 114, 101, 116]) (v := (.slice A145 (sd.length + 2 + 2) c146)) (n := (sd.length + 2 + 2)) (sd ++ (two i) ++ ([(UInt8.ofNat j), (1 : UInt8)])) _ hf147 (hG.ext (((((((Ext.refl w).trans hx5).trans hx13).trans hx30).trans hx124).trans hx135).trans hx153)) (by simp <;> omega) (by omega)) ?_
      rintro _ w159 ⟨rfl, hx160⟩
      refine ⟨_, rfl, ?_⟩; intro a161 F162; clear F155; have z163 := hx160.size
      have b164 := (b157.ext hx160)
      have b165 := (b158.ext hx160)
      refine ⟨fun _ _ => ⟨(((((Ext.refl w29).trans hx124).trans hx135).trans hx153).trans hx160), b164, b165⟩, ?_⟩
      refine any_one (i := 12) (by decide +kernel) rfl ?_
      refine o_store (cells := (byteVals (tagged ([115, 101, 99, 114, 101, 116]) (sd ++ (two i) ++ ([(UInt8.ofNat j), (1 : UInt8)]))))) F162 rfl rfl rfl rfl (F162.get rfl) (F162.get rfl) b165 (inf37.trans (congrArg some (byteVals_len (tagged_len _ _)).symm)) ((byteVals_len (show List.length (List.replicate 32 0) = _ from List.length_replicate)).trans (byteVals_len (tagged_len _ _)).symm) (byteVals_one _) ?_
      intro w166 b167 hg168; have z169 := hg168.size
      refine ⟨fun h => absurd h (by decide), ?_⟩
      refine any_nil (by decide +kernel) ?_
      refine hK28 _ _ ?_
      clear hK28
      have F170 := (((((((F162.nil.c F162 8 rfl).c F162 7 rfl).c F162 6 rfl).c F162 3 rfl).c F162 2 rfl).c F162 1 rfl).c F162 0 rfl)
      clear F162
      refine wp_ret ?_
      refine retC F170 rfl rfl b167 Tryd.underlying37 rfl (inf37.trans (congrArg some (byteVals_len (tagged_len _ _)).symm)) ?_
      exact ⟨by subst hc25; rfl, (((((((((Ext.refl w).trans hx5).trans hx13).trans hx30).trans hx124).trans hx135).trans hx153).trans hx160).grownN hg168 (by omega))⟩
    refine qp 0 (.pointer (some ⟨g2, 0, none⟩)) F27 rfl rfl (fun W => (rn_field Tryd.underlying58 rfl (by kernel_rfl) (F27.get rfl) rfl)) fun _ F172 => ?_; clear F27
    have b174 := ((b4.ext hx13).ext hx30)
    have b175 := (b12.ext hx30)
    have hS173 : Ext w29 w29 ∧ Blk w29 g2 58 [(.slice A sd.length c), (.int .i64 (i : Nat))] ∧ Blk w29 g10 37 (byteVals (List.replicate 32 0)) := ⟨(Ext.refl w29), b174, b175⟩
    refine qs 1 (.slice A sd.length c) F172 rfl rfl hS173 (fun W hW => (rn_load (isAgg_no Tryd.underlying22 rfl) (F172.get rfl) (hW.2.1.rule.1 0))) fun _ F177 => ?_; clear F172
    refine qp 2 (.pointer (some ⟨g2, 1, none⟩)) F177 rfl rfl (fun W => (rn_field Tryd.underlying58 rfl (by kernel_rfl) (F177.get rfl) rfl)) fun _ F179 => ?_; clear F177
    refine qs 3 (.int .i64 (i : Nat)) F179 rfl rfl hS173 (fun W hW => (rn_load (isAgg_no Tryd.underlying3 rfl) (F179.get rfl) (hW.2.1.rule.1 1))) fun _ F181 => ?_; clear F179
    refine qp 5 (.int .i64 (j : Nat)) F181 rfl rfl (fun W => (rn_move (F181.get rfl))) fun _ F183 => ?_; clear F181
    refine qs 6 (.int .u8 ((UInt8.ofNat j).toNat : Nat)) F183 rfl rfl hS173 (fun W hW => (rn_convW Tryd.underlying3 Tryd.underlying5 (F183.get rfl) (cvi_8 j))) fun _ F185 => ?_; clear F183
    refine qp 7 (.int .u8 1) F185 rfl rfl (fun W => (rn_move (F185.get rfl))) fun _ F187 => ?_; clear F185
    refine any_two (i := 4) (k := 8) (by decide +kernel) rfl rfl ?_ ?_
    · skip
      refine o_call F187 rfl rfl rfl rfl (rn_call (args1 (F187.get rfl)) rfl (by kernel_rfl)) (two_any i _ (by omega)) ?_
      rintro _ w192 ⟨A188, c189, rfl, hf190, hx193⟩
      have z191 := (Fl.cel hf190).2.1
      refine ⟨_, rfl, ?_⟩; intro a194 F195; clear F187; have z196 := hx193.size
      have hf197 : Fl (Clip (fun b => w29.heap.size ≤ b) w192) w192 1 (.slice A188 2 c189) 2 (byteVals (two i)) := hf190.clip
      have b198 := (b174.ext hx193)
      have b199 := (b175.ext hx193)
      refine ⟨fun _ _ => ⟨((Ext.refl w29).trans hx193), b198, b199⟩, ?_⟩
      refine any_one (i := 8) (by decide +kernel) rfl ?_
      refine o_new (fun g => (.slice (some ⟨g, 0, none⟩) 2 2)) [(.int .u8 ((UInt8.ofNat j).toNat : Nat)), (.int .u8 1)] 5 F195 rfl rfl rfl rfl (rn_buildSlice (parts2 (F195.get rfl) (F195.get rfl)) (by kernel_rfl)) ?_
      intro g200 w201 a206 F207 z204 z205 b202 hx203; clear F195
      have b208 := (b198.ext hx203)
      have b209 := (b199.ext hx203)
      refine ⟨fun _ _ => ⟨(((Ext.refl w29).trans hx193).trans hx203), b208, b209⟩, ?_⟩
      have d210 := (hf197.ext hx203)
      exact st120 _ _ ⟨A188, c189, g200, ((((((((((F207.nil.c F207 17 rfl).c F207 13 rfl).c F207 10 rfl).c F207 8 rfl).c F207 7 rfl).c F207 6 rfl).c F207 3 rfl).c F207 2 rfl).c F207 1 rfl).c F207 0 rfl), (((Ext.refl w29).trans hx193).trans hx203), b202, (by omega), (Fl.sub d210 (fun b hb => by first | omega | (simp only [Clip] at hb; omega)))⟩
    · skip
      refine o_new (fun g => (.slice (some ⟨g, 0, none⟩) 2 2)) [(.int .u8 ((UInt8.ofNat j).toNat : Nat)), (.int .u8 1)] 5 F187 rfl rfl rfl rfl (rn_buildSlice (parts2 (F187.get rfl) (F187.get rfl)) (by kernel_rfl)) ?_
      intro g211 w212 a217 F218 z215 z216 b213 hx214; clear F187
      have b219 := (b174.ext hx214)
      have b220 := (b175.ext hx214)
      refine ⟨fun _ _ => ⟨((Ext.refl w29).trans hx214), b219, b220⟩, ?_⟩
      refine any_one (i := 4) (by decide +kernel) rfl ?_
      refine o_call F218 rfl rfl rfl rfl (rn_call (args1 (F218.get rfl)) rfl (by kernel_rfl)) (two_any i _ (by omega)) ?_
      rintro _ w225 ⟨A221, c222, rfl, hf223, hx226⟩
      have z224 := (Fl.cel hf223).2.1
      refine ⟨_, rfl, ?_⟩; intro a227 F228; clear F218; have z229 := hx226.size
      have hf230 : Fl (Clip (fun b => w212.heap.size ≤ b) w225) w225 1 (.slice A221 2 c222) 2 (byteVals (two i)) := hf223.clip
      have b231 := (b219.ext hx226)
      have b232 := (b220.ext hx226)
      refine ⟨fun _ _ => ⟨(((Ext.refl w29).trans hx214).trans hx226), b231, b232⟩, ?_⟩
      have b233 := (b213.ext hx226)
      exact st120 _ _ ⟨A221, c222, g211, ((((((((((F228.nil.c F228 17 rfl).c F228 13 rfl).c F228 10 rfl).c F228 8 rfl).c F228 7 rfl).c F228 6 rfl).c F228 3 rfl).c F228 2 rfl).c F228 1 rfl).c F228 0 rfl), (((Ext.refl w29).trans hx214).trans hx226), b233, (by omega), (Fl.sub hf230 (fun b hb => by first | omega | (simp only [Clip] at hb; omega)))⟩
  · skip
    refine wp_cond_false (c_false F24 rfl hc25) ?_
    refine wp_skip ?_
    refine hK21 _ _ ?_
    clear hK21
    refine wp_seq_k (fun K234 hK234 => ?_)
    have hx236 : ∃ W, w11.drew = W ∧ Ext w11 W := ⟨_, rfl, (Ext.refl _).drew⟩
    obtain ⟨w235, e237, hx236⟩ := hx236
    have z238 := hx236.size
    refine any_start (fun W => Ext w235 W ∧ Blk W g2 58 [(.slice A sd.length c), (.int .i64 (i : Nat))] ∧ Blk W g10 37 (byteVals (List.replicate 32 0))) (fun i => i == 12) 13 #[false, false, false, false, false, false, false, false, false, false, false, false, false] rfl rfl rfl ?_
    rw [e237]; clear e237
    refine any_have (n1 := 4) (L1 := #[true, true, true, true, true, true, true, true, true, false, false, false, false]) (fun a' W => ∃ (A256 : Option Addr) (c257 : Nat) (g278 : Nat), Sl 21 [(0, (.agg #[(.slice A sd.length c), (.int .i64 (i : Nat))])), (1, (.int .i64 (j : Nat))), (2, (.bool b)), (3, (.pointer (some ⟨g2, 0, none⟩))), (6, (.pointer (some ⟨g10, 0, none⟩))), (7, (.int .u8 0)), (8, (.bool b)), (10, (.slice A sd.length c)), (13, (.slice A256 2 c257)), (17, (.slice (some ⟨g278, 0, none⟩) 2 2))] a' ∧ Ext w235 W ∧ Blk W g278 5 [(.int .u8 ((UInt8.ofNat j).toNat : Nat)), (.int .u8 0)] ∧ w235.heap.size ≤ g278 ∧ Fl (fun b => w235.heap.size ≤ b) W 1 (.slice A256 2 c257) 2 (byteVals (two i))) ?_ (fun st326 => ?_)
    · skip
      rintro a327 w328 ⟨A256, c257, g278, F329, hx330, b331, z332, hf333⟩
      clear F24
      have z334 := hx330.size
      have z335 := b331.lt
      have z336 := (Fl.cel hf333).2.1
      have z337 := Fl.blen hf333
      refine any_one (i := 9) (by decide +kernel) rfl ?_
      refine o_new (fun g => (.slice (some ⟨g, 0, none⟩) 3 3)) [(.slice A sd.length c), (.slice A256 2 c257), (.slice (some ⟨g278, 0, none⟩) 2 2)] 22 F329 rfl rfl rfl rfl (rn_buildSlice (parts3 (F329.get rfl) (F329.get rfl) (F329.get rfl)) (by kernel_rfl)) ?_
      intro g338 w339 a344 F345 z342 z343 b340 hx341; clear F329
      have b346 := ((((b4.ext hx13).ext hx236).ext hx330).ext hx341)
      have b347 := (((b12.ext hx236).ext hx330).ext hx341)
      refine ⟨fun _ _ => ⟨(((Ext.refl w235).trans hx330).trans hx341), b346, b347⟩, ?_⟩
      refine any_one (i := 10) (by decide +kernel) rfl ?_
      have d348 := (((((hc.ext hx5).ext hx13).ext hx236).ext hx330).ext hx341)
      have d349 := (hf333.ext hx341)
      have b350 := (b331.ext hx341)
      have hn354 := Fl.blen d348
      have hn355 := Fl.blen d349
      have hn356 := Fl.blen (Fl.blk (S := fun b => b = g278) (k := 1) (n := 2) (c := 2) (cs := byteVals [(UInt8.ofNat j), (0 : UInt8)]) b350 rfl (byteVals_one _) (by omega) rfl)
      have hn357 : ([sd, two i, [(UInt8.ofNat j), (0 : UInt8)]]).flatten.length = sd.length + 2 + 2 := by simp only [List.flatten_cons, List.flatten_nil, List.length_append, List.length_nil]; omega
      refine o_call F345 rfl rfl rfl rfl (rn_call (args1 (F345.get rfl)) rfl (by kernel_rfl)) (concat_at [sd, two i, [(UInt8.ofNat j), (0 : UInt8)]] _ (RBss.three b340 d348 d349 (Fl.blk (S := fun b => b = g278) (k := 1) (n := 2) (c := 2) (cs := byteVals [(UInt8.ofNat j), (0 : UInt8)]) b350 rfl (byteVals_one _) (by omega) rfl)) hn357 (by omega)) ?_
      rintro _ w358 ⟨A351, c352, rfl, hf353, hx359⟩
      rw [show ([sd, two i, [(UInt8.ofNat j), (0 : UInt8)]]).flatten = sd ++ (two i) ++ ([(UInt8.ofNat j), (0 : UInt8)]) from by simp] at hf353
      refine ⟨_, rfl, ?_⟩; intro a360 F361; clear F345; have z362 := hx359.size
      have b363 := (b346.ext hx359)
      have b364 := (b347.ext hx359)
      refine ⟨fun _ _ => ⟨((((Ext.refl w235).trans hx330).trans hx341).trans hx359), b363, b364⟩, ?_⟩
      refine any_one (i := 11) (by decide +kernel) rfl ?_
      refine o_call F361 rfl rfl rfl rfl (rn_call (args2 rfl (F361.get rfl)) rfl (by kernel_rfl)) (tagged_at ([115, 101, 99, 114, 101, 116]) (v := (.slice A351 (sd.length + 2 + 2) c352)) (n := (sd.length + 2 + 2)) (sd ++ (two i) ++ ([(UInt8.ofNat j), (0 : UInt8)])) _ hf353 (hG.ext (((((((Ext.refl w).trans hx5).trans hx13).trans hx236).trans hx330).trans hx341).trans hx359)) (by simp <;> omega) (by omega)) ?_
      rintro _ w365 ⟨rfl, hx366⟩
      refine ⟨_, rfl, ?_⟩; intro a367 F368; clear F361; have z369 := hx366.size
      have b370 := (b363.ext hx366)
      have b371 := (b364.ext hx366)
      refine ⟨fun _ _ => ⟨(((((Ext.refl w235).trans hx330).trans hx341).trans hx359).trans hx366), b370, b371⟩, ?_⟩
      refine any_one (i := 12) (by decide +kernel) rfl ?_
      refine o_store (cells := (byteVals (tagged ([115, 101, 99, 114, 101, 116]) (sd ++ (two i) ++ ([(UInt8.ofNat j), (0 : UInt8)]))))) F368 rfl rfl rfl rfl (F368.get rfl) (F368.get rfl) b371 (inf37.trans (congrArg some (byteVals_len (tagged_len _ _)).symm)) ((byteVals_len (show List.length (List.replicate 32 0) = _ from List.length_replicate)).trans (byteVals_len (tagged_len _ _)).symm) (byteVals_one _) ?_
      intro w372 b373 hg374; have z375 := hg374.size
      refine ⟨fun h => absurd h (by decide), ?_⟩
      refine any_nil (by decide +kernel) ?_
      refine hK234 _ _ ?_
      clear hK234
      have F376 := (((((((F368.nil.c F368 8 rfl).c F368 7 rfl).c F368 6 rfl).c F368 3 rfl).c F368 2 rfl).c F368 1 rfl).c F368 0 rfl)
      clear F368
      refine wp_ret ?_
      refine retC F376 rfl rfl b373 Tryd.underlying37 rfl (inf37.trans (congrArg some (byteVals_len (tagged_len _ _)).symm)) ?_
      exact ⟨by subst hc25; rfl, (((((((((Ext.refl w).trans hx5).trans hx13).trans hx236).trans hx330).trans hx341).trans hx359).trans hx366).grownN hg374 (by omega))⟩
    refine qp 0 (.pointer (some ⟨g2, 0, none⟩)) F24 rfl rfl (fun W => (rn_field Tryd.underlying58 rfl (by kernel_rfl) (F24.get rfl) rfl)) fun _ F378 => ?_; clear F24
    have b380 := ((b4.ext hx13).ext hx236)
    have b381 := (b12.ext hx236)
    have hS379 : Ext w235 w235 ∧ Blk w235 g2 58 [(.slice A sd.length c), (.int .i64 (i : Nat))] ∧ Blk w235 g10 37 (byteVals (List.replicate 32 0)) := ⟨(Ext.refl w235), b380, b381⟩
    refine qs 1 (.slice A sd.length c) F378 rfl rfl hS379 (fun W hW => (rn_load (isAgg_no Tryd.underlying22 rfl) (F378.get rfl) (hW.2.1.rule.1 0))) fun _ F383 => ?_; clear F378
    refine qp 2 (.pointer (some ⟨g2, 1, none⟩)) F383 rfl rfl (fun W => (rn_field Tryd.underlying58 rfl (by kernel_rfl) (F383.get rfl) rfl)) fun _ F385 => ?_; clear F383
    refine qs 3 (.int .i64 (i : Nat)) F385 rfl rfl hS379 (fun W hW => (rn_load (isAgg_no Tryd.underlying3 rfl) (F385.get rfl) (hW.2.1.rule.1 1))) fun _ F387 => ?_; clear F385
    refine qp 5 (.int .i64 (j : Nat)) F387 rfl rfl (fun W => (rn_move (F387.get rfl))) fun _ F389 => ?_; clear F387
    refine qs 6 (.int .u8 ((UInt8.ofNat j).toNat : Nat)) F389 rfl rfl hS379 (fun W hW => (rn_convW Tryd.underlying3 Tryd.underlying5 (F389.get rfl) (cvi_8 j))) fun _ F391 => ?_; clear F389
    refine qp 7 (.int .u8 0) F391 rfl rfl (fun W => (rn_move (F391.get rfl))) fun _ F393 => ?_; clear F391
    refine any_two (i := 4) (k := 8) (by decide +kernel) rfl rfl ?_ ?_
    · skip
      refine o_call F393 rfl rfl rfl rfl (rn_call (args1 (F393.get rfl)) rfl (by kernel_rfl)) (two_any i _ (by omega)) ?_
      rintro _ w398 ⟨A394, c395, rfl, hf396, hx399⟩
      have z397 := (Fl.cel hf396).2.1
      refine ⟨_, rfl, ?_⟩; intro a400 F401; clear F393; have z402 := hx399.size
      have hf403 : Fl (Clip (fun b => w235.heap.size ≤ b) w398) w398 1 (.slice A394 2 c395) 2 (byteVals (two i)) := hf396.clip
      have b404 := (b380.ext hx399)
      have b405 := (b381.ext hx399)
      refine ⟨fun _ _ => ⟨((Ext.refl w235).trans hx399), b404, b405⟩, ?_⟩
      refine any_one (i := 8) (by decide +kernel) rfl ?_
      refine o_new (fun g => (.slice (some ⟨g, 0, none⟩) 2 2)) [(.int .u8 ((UInt8.ofNat j).toNat : Nat)), (.int .u8 0)] 5 F401 rfl rfl rfl rfl (rn_buildSlice (parts2 (F401.get rfl) (F401.get rfl)) (by kernel_rfl)) ?_
      intro g406 w407 a412 F413 z410 z411 b408 hx409; clear F401
      have b414 := (b404.ext hx409)
      have b415 := (b405.ext hx409)
      refine ⟨fun _ _ => ⟨(((Ext.refl w235).trans hx399).trans hx409), b414, b415⟩, ?_⟩
      have d416 := (hf403.ext hx409)
      exact st326 _ _ ⟨A394, c395, g406, ((((((((((F413.nil.c F413 17 rfl).c F413 13 rfl).c F413 10 rfl).c F413 8 rfl).c F413 7 rfl).c F413 6 rfl).c F413 3 rfl).c F413 2 rfl).c F413 1 rfl).c F413 0 rfl), (((Ext.refl w235).trans hx399).trans hx409), b408, (by omega), (Fl.sub d416 (fun b hb => by first | omega | (simp only [Clip] at hb; omega)))⟩
    · skip
      refine o_new (fun g => (.slice (some ⟨g, 0, none⟩) 2 2)) [(.int .u8 ((UInt8.ofNat j).toNat : Nat)), (.int .u8 0)] 5 F393 rfl rfl rfl rfl (rn_buildSlice (parts2 (F393.get rfl) (F393.get rfl)) (by kernel_rfl)) ?_
      intro g417 w418 a423 F424 z421 z422 b419 hx420; clear F393
      have b425 := (b380.ext hx420)
      have b426 := (b381.ext hx420)
      refine ⟨fun _ _ => ⟨((Ext.refl w235).trans hx420), b425, b426⟩, ?_⟩
      refine any_one (i := 4) (by decide +kernel) rfl ?_
      refine o_call F424 rfl rfl rfl rfl (rn_call (args1 (F424.get rfl)) rfl (by kernel_rfl)) (two_any i _ (by omega)) ?_
      rintro _ w431 ⟨A427, c428, rfl, hf429, hx432⟩
      have z430 := (Fl.cel hf429).2.1
      refine ⟨_, rfl, ?_⟩; intro a433 F434; clear F424; have z435 := hx432.size
      have hf436 : Fl (Clip (fun b => w418.heap.size ≤ b) w431) w431 1 (.slice A427 2 c428) 2 (byteVals (two i)) := hf429.clip
      have b437 := (b425.ext hx432)
      have b438 := (b426.ext hx432)
      refine ⟨fun _ _ => ⟨(((Ext.refl w235).trans hx420).trans hx432), b437, b438⟩, ?_⟩
      have b439 := (b419.ext hx432)
      exact st326 _ _ ⟨A427, c428, g417, ((((((((((F434.nil.c F434 17 rfl).c F434 13 rfl).c F434 10 rfl).c F434 8 rfl).c F434 7 rfl).c F434 6 rfl).c F434 3 rfl).c F434 2 rfl).c F434 1 rfl).c F434 0 rfl), (((Ext.refl w235).trans hx420).trans hx432), b439, (by omega), (Fl.sub hf436 (fun b hb => by first | omega | (simp only [Clip] at hb; omega)))⟩

theorem secret_at {v : Value} {m : Nat} (sd : List UInt8) (i j : Nat) (b : Bool) (w : World) (hf : Fl S w 1 v m (byteVals sd)) (hG : Glob w) (hsd : m ≤ 4194304) (hi : i < 65536) (hj : j < 256) :
    Calls Tryd.prog 35 #[.agg #[v, .int .i64 (i : Nat)], .int .i64 (j : Nat), .bool b] w (fun e w' => e = .returned (.agg (byteVals (secretD sd i j b)).toArray) ∧ Ext w w') := by
  have hm := hf.blen
  subst hm
  obtain ⟨A, c, rfl, _⟩ := hf.form
  exact secret_any A c sd i j b w hf hG hsd hi hj

set_option maxRecDepth 100000 in
set_option maxHeartbeats 1000000 in
theorem hash_any (A : Option Addr) (c : Nat) (sd : List UInt8) (i j : Nat) (b : Bool) (w : World) (hf : Fl S w 1 (.slice A sd.length c) sd.length (byteVals sd)) (hG : Glob w) (hsd : sd.length ≤ 4194304) (hi : i < 65536) (hj : j < 256) :
    Calls Tryd.prog 36 #[.agg #[.slice A sd.length c, .int .i64 (i : Nat)], .int .i64 (j : Nat), .bool b] w (fun e w' => e = .returned (.agg (byteVals (hashD sd i j b)).toArray) ∧ Ext w w') := by
  have hc : Fl (Clip S w) w 1 (.slice A sd.length c) sd.length (byteVals sd) := hf.clip
  have hcc := (Fl.cel hc).2.1
  refine calls_enter (l := [(.agg #[(.slice A sd.length c), (.int .i64 (i : Nat))]), (.int .i64 (j : Nat)), (.bool b)]) Tryd.func36 rfl rfl rfl (fun aA hF => ?_)
  refine wp_seq_k (fun K1 hK1 => ?_)
  refine wp_region_lit ?_
  refine wpl_op (i := 0) rfl (o_new (fun g => (.pointer (some ⟨g, 0, none⟩))) [(.slice A sd.length c), (.int .i64 (i : Nat))] 58 hF rfl rfl rfl rfl (rn_box (hF.get rfl) (by kernel_rfl)) ?_)
  intro g2 w3 a8 F9 z6 z7 b4 hx5; clear hF
  refine wpl_op (i := 1) rfl (o_new (fun g => (.pointer (some ⟨g, 0, none⟩))) (byteVals (List.replicate 32 0)) 37 F9 rfl rfl rfl rfl (by kernel_rfl) ?_)
  intro g10 w11 a16 F17 z14 z15 b12 hx13; clear F9
  refine wpList_nil ?_
  refine hK1 _ _ ?_
  clear hK1
  refine wp_seq_k (fun K18 hK18 => ?_)
  refine wp_region_lit ?_
  have b19 := (b4.ext hx13)
  refine qv 0 (.agg #[(.slice A sd.length c), (.int .i64 (i : Nat))]) F17 rfl (rn_loadBlk (F17.get rfl) b19 Tryd.underlying58 rfl inf58) fun _ F21 => ?_; clear F17
  refine qv 1 (.int .i64 (j : Nat)) F21 rfl (rn_move (F21.get rfl)) fun _ F23 => ?_; clear F21
  refine qv 2 (.bool b) F23 rfl (rn_move (F23.get rfl)) fun _ F25 => ?_; clear F23
  have d26 := ((hc.ext hx5).ext hx13)
  refine wpl_op (i := 3) rfl (o_call F25 rfl rfl rfl rfl (rn_call (args3 (F25.get rfl) (F25.get rfl) (F25.get rfl)) rfl (by kernel_rfl)) (secret_at (v := (.slice A sd.length c)) (m := sd.length) sd i j b _ d26 (hG.ext (((Ext.refl w).trans hx5).trans hx13)) (by omega) (by omega) (by omega)) ?_)
  rintro _ w27 ⟨rfl, hx28⟩
  refine ⟨_, rfl, ?_⟩; intro a29 F30; clear F25; have z31 := hx28.size
  refine wpl_op (i := 4) rfl (o_call F30 rfl rfl rfl rfl (rn_call (args1 (F30.get rfl)) rfl (by kernel_rfl)) (open_any (secretD sd i j b) _ (secretD_len _ _ _ _) (hG.ext ((((Ext.refl w).trans hx5).trans hx13).trans hx28))) ?_)
  rintro _ w32 ⟨rfl, hx33⟩
  refine ⟨_, rfl, ?_⟩; intro a34 F35; clear F30; have z36 := hx33.size
  have b40 := ((b12.ext hx28).ext hx33)
  refine wpl_op (i := 5) rfl (o_store (cells := (byteVals (openD (secretD sd i j b)))) F35 rfl rfl rfl rfl (F35.get rfl) (F35.get rfl) b40 (inf37.trans (congrArg some (byteVals_len (openD_len _)).symm)) ((byteVals_len (show List.length (List.replicate 32 0) = _ from List.length_replicate)).trans (byteVals_len (openD_len _)).symm) (byteVals_one _) ?_)
  intro w37 b38 hg39; have z41 := hg39.size
  refine wpList_nil ?_
  refine hK18 _ _ ?_
  clear hK18
  have F42 := (((((F35.nil.c F35 6 rfl).c F35 3 rfl).c F35 2 rfl).c F35 1 rfl).c F35 0 rfl)
  clear F35
  refine wp_ret ?_
  refine retC F42 rfl rfl b38 Tryd.underlying37 rfl (inf37.trans (congrArg some (byteVals_len (openD_len _)).symm)) ?_
  exact ⟨rfl, ((((((Ext.refl w).trans hx5).trans hx13).trans hx28).trans hx33).grownN hg39 (by omega))⟩

theorem hash_at {v : Value} {m : Nat} (sd : List UInt8) (i j : Nat) (b : Bool) (w : World) (hf : Fl S w 1 v m (byteVals sd)) (hG : Glob w) (hsd : m ≤ 4194304) (hi : i < 65536) (hj : j < 256) :
    Calls Tryd.prog 36 #[.agg #[v, .int .i64 (i : Nat)], .int .i64 (j : Nat), .bool b] w (fun e w' => e = .returned (.agg (byteVals (hashD sd i j b)).toArray) ∧ Ext w w') := by
  have hm := hf.blen
  subst hm
  obtain ⟨A, c, rfl, _⟩ := hf.form
  exact hash_any A c sd i j b w hf hG hsd hi hj

set_option maxRecDepth 100000 in
set_option maxHeartbeats 1000000 in
theorem rsecret_any (A : Option Addr) (c : Nat) (sd : List UInt8) (many used : Int) (i j : Nat) (b : Bool) (x : Nat) (w : World) (hf : Fl S w 1 (.slice A sd.length c) sd.length (byteVals sd)) (hx : x = if b then 1 else 0) (hsd : sd.length ≤ 4194304) (hi : i < 65536) (hj : j < 256) :
    Calls Tryd.prog 39 #[.agg #[.slice A sd.length c, .int .i64 many, .int .i64 used], .int .i64 (i : Nat), .int .i64 (j : Nat), .int .i64 (x : Nat)] w (fun e w' => e = .returned (.agg (byteVals (secretD sd i j b)).toArray) ∧ Ext w w') := by
  have hc : Fl (Clip S w) w 1 (.slice A sd.length c) sd.length (byteVals sd) := hf.clip
  have hcc := (Fl.cel hc).2.1
  refine calls_enter (l := [(.agg #[(.slice A sd.length c), (.int .i64 many), (.int .i64 used)]), (.int .i64 (i : Nat)), (.int .i64 (j : Nat)), (.int .i64 (x : Nat))]) Tryd.func39 rfl rfl rfl (fun aA hF => ?_)
  refine wp_seq_k (fun K1 hK1 => ?_)
  refine wp_region_lit ?_
  refine wpl_op (i := 0) rfl (o_new (fun g => (.pointer (some ⟨g, 0, none⟩))) [(.slice A sd.length c), (.int .i64 many), (.int .i64 used)] 24 hF rfl rfl rfl rfl (rn_box (hF.get rfl) (by kernel_rfl)) ?_)
  intro g2 w3 a8 F9 z6 z7 b4 hx5; clear hF
  refine wpl_op (i := 1) rfl (o_new (fun g => (.pointer (some ⟨g, 0, none⟩))) (byteVals (List.replicate 32 0)) 37 F9 rfl rfl rfl rfl (by kernel_rfl) ?_)
  intro g10 w11 a16 F17 z14 z15 b12 hx13; clear F9
  refine wpList_nil ?_
  refine hK1 _ _ ?_
  clear hK1
  refine wp_seq_k (fun K18 hK18 => ?_)
  refine wp_region_lit ?_
  refine wpl_op (i := 0) rfl (o_new (fun g => (.slice (some ⟨g, 0, none⟩) 0 0)) [] 5 F17 rfl rfl rfl rfl (rn_buildSlice (parts0 ) (by kernel_rfl)) ?_)
  intro g19 w20 a25 F26 z23 z24 b21 hx22; clear F17
  refine qv 1 (.pointer (some ⟨g2, 0, none⟩)) F26 rfl (rn_field Tryd.underlying24 rfl (by kernel_rfl) (F26.get rfl) rfl) fun _ F28 => ?_; clear F26
  have b29 := ((b4.ext hx13).ext hx22)
  refine qv 2 (.slice A sd.length c) F28 rfl (rn_load (isAgg_no Tryd.underlying22 rfl) (F28.get rfl) (b29.rule.1 0)) fun _ F31 => ?_; clear F28
  have d33 := (((hc.ext hx5).ext hx13).ext hx22)
  have hf42 := (own_blk0 (k := 1) b21)
  refine wpl_op (i := 3) rfl (o_appB (zs := byteVals sd) El22 F31 rfl rfl rfl rfl rfl (F31.get rfl) (F31.get rfl) hf42 (Fl.cel d33).2.2 (by omega) (by omega) (by omega) (List.nil_append _) ?_)
  intro A34 c35 w36 a43 F44 r37 hg38 z39 z40 hnb41; clear F31; have z45 := hg38.size
  have hg46 : w20.grownBy w36 (some g19) := hg38
  refine qv 4 (.int .i64 (i : Nat)) F44 rfl (rn_move (F44.get rfl)) fun _ F48 => ?_; clear F44
  refine wpl_op (i := 5) rfl (o_call F48 rfl rfl rfl rfl (rn_call (args1 (F48.get rfl)) rfl (by kernel_rfl)) (rtwo_any i _ (by omega)) ?_)
  rintro _ w53 ⟨A49, c50, rfl, hf51, hx54⟩
  have z52 := (Fl.cel hf51).2.1
  refine ⟨_, rfl, ?_⟩; intro a55 F56; clear F48; have z57 := hx54.size
  have hf58 : Fl (Clip (fun b => w36.heap.size ≤ b) w53) w53 1 (.slice A49 2 c50) 2 (byteVals (two i)) := hf51.clip
  have r59 := (own_ext r37 hx54)
  have hf68 := r59
  refine wpl_op (i := 6) rfl (o_appB (zs := byteVals (sd ++ (two i))) El22 F56 rfl rfl rfl rfl rfl (F56.get rfl) (F56.get rfl) hf68 (Fl.cel hf58).2.2 (by omega) (by omega) (by omega) (byteVals_app _ _) ?_)
  intro A60 c61 w62 a69 F70 r63 hg64 z65 z66 hnb67; clear F56; have z71 := hg64.size
  refine qv 7 (.slice A60 ((0 + sd.length) + 2) c61) F70 rfl (rn_assign (F70.get rfl)) fun _ F73 => ?_; clear F70
  refine wpList_nil ?_
  refine hK18 _ _ ?_
  clear hK18
  have F74 := (((((((F73.nil.c F73 9 rfl).c F73 8 rfl).c F73 4 rfl).c F73 3 rfl).c F73 2 rfl).c F73 1 rfl).c F73 0 rfl)
  clear F73
  refine wp_seq_k (fun K75 hK75 => ?_)
  refine wp_region_lit ?_
  refine qv 0 (.slice A60 ((0 + sd.length) + 2) c61) F74 rfl (rn_move (F74.get rfl)) fun _ F77 => ?_; clear F74
  refine qv 1 (.int .i64 (j : Nat)) F77 rfl (rn_move (F77.get rfl)) fun _ F79 => ?_; clear F77
  refine qv 2 (.int .u8 ((UInt8.ofNat j).toNat : Nat)) F79 rfl (rn_convW Tryd.underlying3 Tryd.underlying5 (F79.get rfl) (cvi_8 j)) fun _ F81 => ?_; clear F79
  refine qv 3 (.int .i64 (x : Nat)) F81 rfl (rn_move (F81.get rfl)) fun _ F83 => ?_; clear F81
  refine qv 4 (.int .u8 ((UInt8.ofNat x).toNat : Nat)) F83 rfl (rn_convW Tryd.underlying3 Tryd.underlying5 (F83.get rfl) (cvi_8 x)) fun _ F85 => ?_; clear F83
  have hf86 := r63
  refine wpl_op (i := 5) rfl (o_new (fun g => (.slice (some ⟨g, 0, none⟩) 2 2)) [(.int .u8 ((UInt8.ofNat j).toNat : Nat)), (.int .u8 ((UInt8.ofNat x).toNat : Nat))] 5 F85 rfl rfl rfl rfl (rn_buildSlice (parts2 (F85.get rfl) (F85.get rfl)) (by kernel_rfl)) ?_)
  intro g87 w88 a93 F94 z91 z92 b89 hx90; clear F85
  have nb95 := own_new (g := g87) hf86 (by omega)
  have r96 := (own_ext r63 hx90)
  have hf105 := r96
  have nb106 : some g87 ≠ (Value.slice A60 ((0 + sd.length) + 2) c61).ownBlock := nb95
  have z107 := b89.lt
  refine wpl_op (i := 6) rfl (o_appB (zs := byteVals ((sd ++ (two i)) ++ ([(UInt8.ofNat j), (UInt8.ofNat x)]))) El22 F94 rfl rfl rfl rfl rfl (F94.get rfl) (F94.get rfl) hf105 (Fl.cel (Fl.blk (S := fun b => b = g87) (k := 1) (n := 2) (c := 2) (cs := byteVals [(UInt8.ofNat j), (UInt8.ofNat x)]) b89 rfl (byteVals_one _) (by omega) rfl)).2.2 (by omega) (by omega) (by omega) (byteVals_app _ _) ?_)
  intro A97 c98 w99 a108 F109 r100 hg101 z102 z103 hnb104; clear F94; have z110 := hg101.size
  have nb111 := hnb104 g87 (by omega) nb106
  refine wpl_op (i := 7) rfl (o_call F109 rfl rfl rfl rfl (rn_call (args2 rfl (F109.get rfl)) rfl (by kernel_rfl)) (rtagged_at ([115, 101, 99, 114, 101, 116]) (v := (.slice A97 (((0 + sd.length) + 2) + 2) c98)) (n := ((0 + sd.length) + 2) + 2) ((sd ++ (two i)) ++ ([(UInt8.ofNat j), (UInt8.ofNat x)])) _ (Fl.own (S := fun b => g19 ≤ b) r100 (fun b hb => hb) (byteVals_one _)) (by decide) (by omega)) ?_)
  rintro _ w112 ⟨rfl, hx113⟩
  refine ⟨_, rfl, ?_⟩; intro a114 F115; clear F109; have z116 := hx113.size
  have b120 := ((grown_blk hf105 hg101 ((grown_blk hf68 hg64 (((b12.ext hx22).grownN hg46 (by omega)).ext hx54) (by decide)).ext hx90) (by decide)).ext hx113)
  refine wpl_op (i := 8) rfl (o_store (cells := (byteVals (tagged ([115, 101, 99, 114, 101, 116]) ((sd ++ (two i)) ++ ([(UInt8.ofNat j), (UInt8.ofNat x)]))))) F115 rfl rfl rfl rfl (F115.get rfl) (F115.get rfl) b120 (inf37.trans (congrArg some (byteVals_len (tagged_len _ _)).symm)) ((byteVals_len (show List.length (List.replicate 32 0) = _ from List.length_replicate)).trans (byteVals_len (tagged_len _ _)).symm) (byteVals_one _) ?_)
  intro w117 b118 hg119; have z121 := hg119.size
  refine wpList_nil ?_
  refine hK75 _ _ ?_
  clear hK75
  have F122 := (((((((F115.nil.c F115 9 rfl).c F115 8 rfl).c F115 4 rfl).c F115 3 rfl).c F115 2 rfl).c F115 1 rfl).c F115 0 rfl)
  clear F115
  refine wp_ret ?_
  refine retC F122 rfl rfl b118 Tryd.underlying37 rfl (inf37.trans (congrArg some (byteVals_len (tagged_len _ _)).symm)) ?_
  exact ⟨by subst hx; cases b <;> rfl, (((ext_row ((ext_row ((((((Ext.refl w).trans hx5).trans hx13).trans hx22).grownN hg46 (by omega)).trans hx54) hg64 hf68 (by omega)).trans hx90) hg101 hf105 (by omega)).trans hx113).grownN hg119 (by omega))⟩

theorem rsecret_at {v : Value} {m : Nat} (sd : List UInt8) (many used : Int) (i j : Nat) (b : Bool) {x : Nat} (w : World) (hf : Fl S w 1 v m (byteVals sd)) (hx : x = if b then 1 else 0) (hsd : m ≤ 4194304) (hi : i < 65536) (hj : j < 256) :
    Calls Tryd.prog 39 #[.agg #[v, .int .i64 many, .int .i64 used], .int .i64 (i : Nat), .int .i64 (j : Nat), .int .i64 (x : Nat)] w (fun e w' => e = .returned (.agg (byteVals (secretD sd i j b)).toArray) ∧ Ext w w') := by
  have hm := hf.blen
  subst hm
  obtain ⟨A, c, rfl, _⟩ := hf.form
  exact rsecret_any A c sd many used i j b x w hf hx hsd hi hj

end Go.Proofs.YtmjgjopbeokajaaDoor

namespace Go.Proofs.YtmjgjopbeokajaaDoor
open Go.RowKit

variable {S S' : Nat → Prop}
theorem eqnilBy (w : World) (A : Option Addr) (n c : Nat) : (binOp .eql 22 (.slice A n c) (.slice none 0 0)).run Tryd.prog w = .ok (.bool A.isNone) w := Lib.run_eql_slice_nil w _ _ A n c 0 0 Tryd.underlying22
attribute [local go_sem] eqnilBy
set_option maxRecDepth 100000 in
set_option maxHeartbeats 1000000 in
theorem cloneBy_any (A : Option Addr) (n cap : Nat) (xs : List Value) (w : World) (hc : Cel w 1 A n xs) (hn : n ≤ 140737488355328) :
    Calls Tryd.prog 48 #[.slice A n cap] w (fun en w' => ∃ v, en = .returned v ∧ w'.ownsRow w.heap.size 5 1 v n xs ∧ Ext w w') := by
  rcases A with _ | ad
  · have hn0 : n = 0 := by
      rcases Nat.eq_zero_or_pos n with h | h
      · exact h
      · obtain ⟨b, off, h, _⟩ := hc.2.2 h; cases h
    subst hn0
    have hx : xs = [] := List.eq_nil_of_length_eq_zero (by have := hc.1; omega)
    have HX := Lib.hid hx
    clear hx hc
    go_enter Tryd.func48, Tryd.ntmps48
    go_wp2
    go_ret
    exact ⟨_, rfl, by rw [HX.out]; exact World.ownsRow_nil _ _ _ _, Ext.refl _⟩
  · have HC := Lib.hid hc
    clear hc
    go_enter Tryd.func48, Tryd.ntmps48
    go_wp2_with (with_reducible refine stop_append ?_)
    refine Lib.hid (wpList_app El22 rfl rfl rfl rfl (World.ownsRow_lit w #[] 0 (Nat.le_refl _) (Nat.zero_le _) (by simp)) (HC.out.ext ((Ext.refl _).alloc _)) (by simp) (by omega) (by omega) ?_)
    intro v' w' hown hg hat
    have HO := Lib.hid hown
    have HE : Hid (Ext w w') := ((Ext.refl w).alloc _).grown hg (fun k hk => by have hk : some w.heap.size = some k := hk; injection hk; omega)
    clear hown hg hat
    go_wp2
    go_ret
    exact ⟨_, rfl, by simpa using HO.out, HE.out⟩
theorem clone_at {v : Value} {n : Nat} (l : List UInt8) (w : World) (hf : Fl S w 1 v n (byteVals l)) (hn : n ≤ 140737488355328) :
    Calls Tryd.prog 48 #[v] w (fun en w' => ∃ A c, en = .returned (.slice A n c) ∧ Fl (fun b => w.heap.size ≤ b) w' 1 (.slice A n c) n (byteVals l) ∧ Ext w w') := by
  obtain ⟨A, c, rfl, _⟩ := hf.form
  refine (cloneBy_any A n c _ w hf.cel.2.2 hn).mono fun e w' ⟨u, he, ho, hx⟩ => ?_
  have h := Fl.own (S := fun b => w.heap.size ≤ b) ho (fun b hb => hb) (byteVals_one l)
  obtain ⟨A', c', rfl, _⟩ := h.form
  exact ⟨A', c', he, h, hx⟩

end Go.Proofs.YtmjgjopbeokajaaDoor

namespace Go.Proofs.YtmjgjopbeokajaaDoor
open Go.RowKit

variable {S S' : Nat → Prop}

def newS (sd : List UInt8) (many : Int) : List UInt8 := if kOk sd many 0 = true then sd else []
def newM (sd : List UInt8) (many : Int) : Int := if kOk sd many 0 = true then many else 0
def newE (sd : List UInt8) (many : Int) : Int := if kOk sd many 0 = true then 0 else 40

set_option maxRecDepth 100000 in
set_option maxHeartbeats 1000000 in
theorem new_any (A : Option Addr) (c : Nat) (sd : List UInt8) (many : Int) (w : World) (hf : Fl S w 1 (.slice A sd.length c) sd.length (byteVals sd)) (hsd : sd.length ≤ 140737488355328) :
    Calls Tryd.prog 20 #[.slice A sd.length c, .int .i64 many] w (fun e w' => ∃ A m c, e = .returned (.tuple #[.agg #[.slice A m c, .int .i64 (newM sd many), .int .i64 0], .int .i64 (newE sd many)]) ∧ Fl (fun b => w.heap.size ≤ b) w' 1 (.slice A m c) m (byteVals (newS sd many)) ∧ Ext w w') := by
  have hc : Fl (Clip S w) w 1 (.slice A sd.length c) sd.length (byteVals sd) := hf.clip
  have hcc := (Fl.cel hc).2.1
  refine calls_enter (l := [(.slice A sd.length c), (.int .i64 many)]) Tryd.func20 rfl rfl rfl (fun aA hF => ?_)
  refine wp_seq_k (fun K1 hK1 => ?_)
  refine wp_region_lit ?_
  refine wpl_op (i := 0) rfl (o_new (fun g => (.pointer (some ⟨g, 0, none⟩))) [(.slice none 0 0), (.int .i64 0), (.int .i64 0)] 24 hF rfl rfl rfl rfl (by kernel_rfl) ?_)
  intro g2 w3 a8 F9 z6 z7 b4 hx5; clear hF
  refine qv 1 (.int .i64 0) F9 rfl (rn_assign rfl) fun _ F11 => ?_; clear F9
  refine wpList_nil ?_
  refine hK1 _ _ ?_
  clear hK1
  refine wp_seq_k (fun K12 hK12 => ?_)
  refine wp_region_lit ?_
  refine qv 0 (.slice A sd.length c) F11 rfl (rn_move (F11.get rfl)) fun _ F14 => ?_; clear F11
  have d15 := (hc.ext hx5)
  refine wpl_op (i := 1) rfl (o_call F14 rfl rfl rfl rfl (rn_call (args1 (F14.get rfl)) rfl (by kernel_rfl)) (clone_at (v := (.slice A sd.length c)) (n := sd.length) sd _ d15 (by omega)) ?_)
  rintro _ w20 ⟨A16, c17, rfl, hf18, hx21⟩
  have z19 := (Fl.cel hf18).2.1
  refine ⟨_, rfl, ?_⟩; intro a22 F23; clear F14; have z24 := hx21.size
  have hf25 : Fl (Clip (fun b => w3.heap.size ≤ b) w20) w20 1 (.slice A16 sd.length c17) sd.length (byteVals sd) := hf18.clip
  refine qv 2 (.int .i64 many) F23 rfl (rn_move (F23.get rfl)) fun _ F27 => ?_; clear F23
  refine qv 3 (.agg #[(.slice A16 sd.length c17), (.int .i64 many), (.int .i64 0)]) F27 rfl (rn_build (parts2 (F27.get rfl) (F27.get rfl)) (by kernel_rfl)) fun _ F29 => ?_; clear F27
  refine wpl_op (i := 4) rfl (o_new (fun g => (.pointer (some ⟨g, 0, none⟩))) [(.slice none 0 0), (.int .i64 0), (.int .i64 0)] 24 F29 rfl rfl rfl rfl (by kernel_rfl) ?_)
  intro g30 w31 a36 F37 z34 z35 b32 hx33; clear F29
  refine wpl_op (i := 5) rfl (o_store (cells := [(.slice A16 sd.length c17), (.int .i64 many), (.int .i64 0)]) F37 rfl rfl rfl rfl (F37.get rfl) (F37.get rfl) b32 inf24 rfl (by simp [Value.oneCell']) ?_)
  intro w38 b39 hg40; have z41 := hg40.size
  refine wpList_nil ?_
  refine hK12 _ _ ?_
  clear hK12
  have F42 := (((((F37.nil.c F37 6 rfl).c F37 5 rfl).c F37 4 rfl).c F37 1 rfl).c F37 0 rfl)
  clear F37
  refine wp_seq_k (fun K43 hK43 => ?_)
  refine wp_seq_k (fun K44 hK44 => ?_)
  refine wp_region_lit ?_
  refine qv 0 (.agg #[(.slice A16 sd.length c17), (.int .i64 many), (.int .i64 0)]) F42 rfl (rn_loadBlk (F42.get rfl) b39 Tryd.underlying24 rfl inf24) fun _ F46 => ?_; clear F42
  have d47 := (hf25.pres (((Pres.refl w20).ext hx33).grownN hg40 (fun h => by simp only [Clip] at h; omega)))
  refine wpl_op (i := 1) rfl (o_call F46 rfl rfl rfl rfl (rn_call (args1 (F46.get rfl)) rfl (by kernel_rfl)) (valid_at (v := (.slice A16 sd.length c17)) (m := sd.length) sd many 0 _ d47) ?_)
  rintro _ w48 ⟨rfl, hx49⟩
  refine ⟨_, rfl, ?_⟩; intro a50 F51; clear F46; have z52 := hx49.size
  refine qv 2 (.bool (!(kOk sd many 0))) F51 rfl (rn_not' (F51.get rfl) rfl) fun _ F54 => ?_; clear F51
  refine wpList_nil ?_
  refine hK44 _ _ ?_
  clear hK44
  rcases Bool.eq_false_or_eq_true (kOk sd many 0) with hc55 | hc55
  · skip
    refine wp_cond_false (c_false F54 rfl (not_t hc55)) ?_
    refine wp_skip ?_
    refine hK43 _ _ ?_
    clear hK43
    refine wp_seq_k (fun K56 hK56 => ?_)
    refine wp_region_lit ?_
    have b57 := (b39.ext hx49)
    refine qv 0 (.agg #[(.slice A16 sd.length c17), (.int .i64 many), (.int .i64 0)]) F54 rfl (rn_loadBlk (F54.get rfl) b57 Tryd.underlying24 rfl inf24) fun _ F59 => ?_; clear F54
    have b63 := ((((b4.ext hx21).ext hx33).grownN hg40 (by omega)).ext hx49)
    refine wpl_op (i := 1) rfl (o_store (cells := [(.slice A16 sd.length c17), (.int .i64 many), (.int .i64 0)]) F59 rfl rfl rfl rfl (F59.get rfl) (F59.get rfl) b63 inf24 rfl (by simp [Value.oneCell']) ?_)
    intro w60 b61 hg62; have z64 := hg62.size
    refine qv 2 (.int .i64 0) F59 rfl (rn_assign rfl) fun _ F66 => ?_; clear F59
    refine wpList_nil ?_
    refine hK56 _ _ ?_
    clear hK56
    refine wp_ret ?_
    refine retC1 F66 rfl rfl rfl b61 Tryd.underlying24 rfl inf24 ?_
    have d67 := (hf25.pres (((((Pres.refl w20).ext hx33).grownN hg40 (fun h => by simp only [Clip] at h; omega)).ext hx49).grownN hg62 (fun h => by simp only [Clip] at h; omega)))
    exact ⟨_, _, _, by rw [newM, newE, hc55]; rfl, by rw [newS, hc55]; exact Fl.sub d67 (fun b hb => by first | omega | (simp only [Clip] at hb; omega)), (((((((Ext.refl w).trans hx5).trans hx21).trans hx33).grownN hg40 (by omega)).trans hx49).grownN hg62 (by omega))⟩
  · skip
    refine wp_cond_true (c_true F54 rfl (not_f hc55)) ?_
    refine wp_seq_k (fun K68 hK68 => ?_)
    refine wp_region_lit ?_
    have b69 := ((((b4.ext hx21).ext hx33).grownN hg40 (by omega)).ext hx49)
    refine qv 0 (.agg #[(.slice none 0 0), (.int .i64 0), (.int .i64 0)]) F54 rfl (rn_loadBlk (F54.get rfl) b69 Tryd.underlying24 rfl inf24) fun _ F71 => ?_; clear F54
    refine wpl_op (i := 1) rfl (o_store (cells := [(.slice none 0 0), (.int .i64 0), (.int .i64 0)]) F71 rfl rfl rfl rfl (F71.get rfl) (F71.get rfl) b69 inf24 rfl (by simp [Value.oneCell']) ?_)
    intro w72 b73 hg74; have z75 := hg74.size
    refine qv 2 (.int .i64 40) F71 rfl (rn_assign rfl) fun _ F77 => ?_; clear F71
    refine wpList_nil ?_
    refine hK68 _ _ ?_
    clear hK68
    refine wp_ret ?_
    refine ret_then ?_
    refine retC1 F77 rfl rfl rfl b73 Tryd.underlying24 rfl inf24 ?_
    exact ⟨none, 0, 0, by rw [newM, newE, hc55]; rfl, by rw [newS, hc55]; exact Fl.nil _, (((((((Ext.refl w).trans hx5).trans hx21).trans hx33).grownN hg40 (by omega)).trans hx49).grownN hg74 (by omega))⟩

theorem new_at {v : Value} {m : Nat} (sd : List UInt8) (many : Int) (w : World) (hf : Fl S w 1 v m (byteVals sd)) (hsd : m ≤ 140737488355328) :
    Calls Tryd.prog 20 #[v, .int .i64 many] w (fun e w' => ∃ A m c, e = .returned (.tuple #[.agg #[.slice A m c, .int .i64 (newM sd many), .int .i64 0], .int .i64 (newE sd many)]) ∧ Fl (fun b => w.heap.size ≤ b) w' 1 (.slice A m c) m (byteVals (newS sd many)) ∧ Ext w w') := by
  have hm := hf.blen
  subst hm
  obtain ⟨A, c, rfl, _⟩ := hf.form
  exact new_any A c sd many w hf hsd

set_option maxRecDepth 100000 in
set_option maxHeartbeats 1000000 in
theorem rnew_any (A : Option Addr) (c : Nat) (sd : List UInt8) (many : Int) (w : World) (hf : Fl S w 1 (.slice A sd.length c) sd.length (byteVals sd)) (hsd : sd.length ≤ 140737488355328) :
    Calls Tryd.prog 21 #[.slice A sd.length c, .int .i64 many] w (fun e w' => ∃ A m c, e = .returned (.tuple #[.agg #[.slice A m c, .int .i64 (newM sd many), .int .i64 0], .int .i64 (newE sd many)]) ∧ Fl (fun b => w.heap.size ≤ b) w' 1 (.slice A m c) m (byteVals (newS sd many)) ∧ Ext w w') := by
  have hc : Fl (Clip S w) w 1 (.slice A sd.length c) sd.length (byteVals sd) := hf.clip
  have hcc := (Fl.cel hc).2.1
  refine calls_enter (l := [(.slice A sd.length c), (.int .i64 many)]) Tryd.func21 rfl rfl rfl (fun aA hF => ?_)
  refine wp_seq_k (fun K1 hK1 => ?_)
  refine wp_region_lit ?_
  refine wpl_op (i := 0) rfl (o_new (fun g => (.pointer (some ⟨g, 0, none⟩))) [(.slice none 0 0), (.int .i64 0), (.int .i64 0)] 24 hF rfl rfl rfl rfl (by kernel_rfl) ?_)
  intro g2 w3 a8 F9 z6 z7 b4 hx5; clear hF
  refine qv 1 (.int .i64 0) F9 rfl (rn_assign rfl) fun _ F11 => ?_; clear F9
  refine wpList_nil ?_
  refine hK1 _ _ ?_
  clear hK1
  refine wp_seq_k (fun K12 hK12 => ?_)
  refine wp_region_lit ?_
  refine wpl_op (i := 0) rfl (o_new (fun g => (.slice (some ⟨g, 0, none⟩) 0 0)) [] 5 F11 rfl rfl rfl rfl (rn_buildSlice (parts0 ) (by kernel_rfl)) ?_)
  intro g13 w14 a19 F20 z17 z18 b15 hx16; clear F11
  refine qv 1 (.slice A sd.length c) F20 rfl (rn_move (F20.get rfl)) fun _ F22 => ?_; clear F20
  have d24 := ((hc.ext hx5).ext hx16)
  have hf33 := (own_blk0 (k := 1) b15)
  refine wpl_op (i := 2) rfl (o_appB (zs := byteVals sd) El22 F22 rfl rfl rfl rfl rfl (F22.get rfl) (F22.get rfl) hf33 (Fl.cel d24).2.2 (by omega) (by omega) (by omega) (List.nil_append _) ?_)
  intro A25 c26 w27 a34 F35 r28 hg29 z30 z31 hnb32; clear F22; have z36 := hg29.size
  have hg37 : w14.grownBy w27 (some g13) := hg29
  refine qv 3 (.int .i64 many) F35 rfl (rn_move (F35.get rfl)) fun _ F39 => ?_; clear F35
  refine qv 4 (.agg #[(.slice A25 (0 + sd.length) c26), (.int .i64 many), (.int .i64 0)]) F39 rfl (rn_build (parts2 (F39.get rfl) (F39.get rfl)) (by kernel_rfl)) fun _ F41 => ?_; clear F39
  refine wpl_op (i := 5) rfl (o_new (fun g => (.pointer (some ⟨g, 0, none⟩))) [(.slice none 0 0), (.int .i64 0), (.int .i64 0)] 24 F41 rfl rfl rfl rfl (by kernel_rfl) ?_)
  intro g42 w43 a48 F49 z46 z47 b44 hx45; clear F41
  refine wpl_op (i := 6) rfl (o_store (cells := [(.slice A25 (0 + sd.length) c26), (.int .i64 many), (.int .i64 0)]) F49 rfl rfl rfl rfl (F49.get rfl) (F49.get rfl) b44 inf24 rfl (by simp [Value.oneCell']) ?_)
  intro w50 b51 hg52; have z53 := hg52.size
  refine wpList_nil ?_
  refine hK12 _ _ ?_
  clear hK12
  have F54 := (((((F49.nil.c F49 6 rfl).c F49 5 rfl).c F49 4 rfl).c F49 1 rfl).c F49 0 rfl)
  clear F49
  refine wp_seq_k (fun K55 hK55 => ?_)
  refine wp_seq_k (fun K56 hK56 => ?_)
  refine wp_region_lit ?_
  refine qv 0 (.agg #[(.slice A25 (0 + sd.length) c26), (.int .i64 many), (.int .i64 0)]) F54 rfl (rn_loadBlk (F54.get rfl) b51 Tryd.underlying24 rfl inf24) fun _ F58 => ?_; clear F54
  have r59 := (own_grownT (own_ext r28 hx45) b44 hg52 (by decide))
  refine wpl_op (i := 1) rfl (o_call F58 rfl rfl rfl rfl (rn_call (args1 (F58.get rfl)) rfl (by kernel_rfl)) (rvalid_at (v := (.slice A25 (0 + sd.length) c26)) (m := 0 + sd.length) sd many 0 _ (Fl.own (S := fun b => g13 ≤ b) r59 (fun b hb => hb) (byteVals_one _))) ?_)
  rintro _ w60 ⟨rfl, hx61⟩
  refine ⟨_, rfl, ?_⟩; intro a62 F63; clear F58; have z64 := hx61.size
  refine qv 2 (.bool (!(kOk sd many 0))) F63 rfl (rn_not' (F63.get rfl) rfl) fun _ F66 => ?_; clear F63
  refine wpList_nil ?_
  refine hK56 _ _ ?_
  clear hK56
  rcases Bool.eq_false_or_eq_true (kOk sd many 0) with hc67 | hc67
  · skip
    refine wp_cond_false (c_false F66 rfl (not_t hc67)) ?_
    refine wp_skip ?_
    refine hK55 _ _ ?_
    clear hK55
    refine wp_seq_k (fun K68 hK68 => ?_)
    refine wp_region_lit ?_
    have b69 := (b51.ext hx61)
    refine qv 0 (.agg #[(.slice A25 (0 + sd.length) c26), (.int .i64 many), (.int .i64 0)]) F66 rfl (rn_loadBlk (F66.get rfl) b69 Tryd.underlying24 rfl inf24) fun _ F71 => ?_; clear F66
    have b75 := (((((b4.ext hx16).grownN hg37 (by omega)).ext hx45).grownN hg52 (by omega)).ext hx61)
    refine wpl_op (i := 1) rfl (o_store (cells := [(.slice A25 (0 + sd.length) c26), (.int .i64 many), (.int .i64 0)]) F71 rfl rfl rfl rfl (F71.get rfl) (F71.get rfl) b75 inf24 rfl (by simp [Value.oneCell']) ?_)
    intro w72 b73 hg74; have z76 := hg74.size
    refine qv 2 (.int .i64 0) F71 rfl (rn_assign rfl) fun _ F78 => ?_; clear F71
    refine wpList_nil ?_
    refine hK68 _ _ ?_
    clear hK68
    refine wp_ret ?_
    refine retC1 F78 rfl rfl rfl b73 Tryd.underlying24 rfl inf24 ?_
    have r79 := (own_grownT (own_ext r59 hx61) b75 hg74 (by decide))
    exact ⟨_, _, _, by rw [newM, newE, hc67]; rfl, by rw [newS, hc67]; exact Fl.sub (Fl.own (S := fun b => g13 ≤ b) r79 (fun b hb => hb) (byteVals_one _)) (fun b hb => by first | omega | (simp only [Clip] at hb; omega)), ((((((((Ext.refl w).trans hx5).trans hx16).grownN hg37 (by omega)).trans hx45).grownN hg52 (by omega)).trans hx61).grownN hg74 (by omega))⟩
  · skip
    refine wp_cond_true (c_true F66 rfl (not_f hc67)) ?_
    refine wp_seq_k (fun K80 hK80 => ?_)
    refine wp_region_lit ?_
    refine qv 0 (.agg #[(.slice none 0 0), (.int .i64 0), (.int .i64 0)]) F66 rfl (rn_build (parts0 ) (by kernel_rfl)) fun _ F82 => ?_; clear F66
    have b86 := (((((b4.ext hx16).grownN hg37 (by omega)).ext hx45).grownN hg52 (by omega)).ext hx61)
    refine wpl_op (i := 1) rfl (o_store (cells := [(.slice none 0 0), (.int .i64 0), (.int .i64 0)]) F82 rfl rfl rfl rfl (F82.get rfl) (F82.get rfl) b86 inf24 rfl (by simp [Value.oneCell']) ?_)
    intro w83 b84 hg85; have z87 := hg85.size
    refine qv 2 (.int .i64 40) F82 rfl (rn_assign rfl) fun _ F89 => ?_; clear F82
    refine wpList_nil ?_
    refine hK80 _ _ ?_
    clear hK80
    refine wp_ret ?_
    refine ret_then ?_
    refine retC1 F89 rfl rfl rfl b84 Tryd.underlying24 rfl inf24 ?_
    exact ⟨none, 0, 0, by rw [newM, newE, hc67]; rfl, by rw [newS, hc67]; exact Fl.nil _, ((((((((Ext.refl w).trans hx5).trans hx16).grownN hg37 (by omega)).trans hx45).grownN hg52 (by omega)).trans hx61).grownN hg85 (by omega))⟩

theorem rnew_at {v : Value} {m : Nat} (sd : List UInt8) (many : Int) (w : World) (hf : Fl S w 1 v m (byteVals sd)) (hsd : m ≤ 140737488355328) :
    Calls Tryd.prog 21 #[v, .int .i64 many] w (fun e w' => ∃ A m c, e = .returned (.tuple #[.agg #[.slice A m c, .int .i64 (newM sd many), .int .i64 0], .int .i64 (newE sd many)]) ∧ Fl (fun b => w.heap.size ≤ b) w' 1 (.slice A m c) m (byteVals (newS sd many)) ∧ Ext w w') := by
  have hm := hf.blen
  subst hm
  obtain ⟨A, c, rfl, _⟩ := hf.form
  exact rnew_any A c sd many w hf hsd

end Go.Proofs.YtmjgjopbeokajaaDoor

namespace Go.Proofs.YtmjgjopbeokajaaDoor
open Go.RowKit

variable {S S' : Nat → Prop}

set_option maxRecDepth 100000 in
set_option maxHeartbeats 1000000 in
theorem public_any (f : FuncId) (first cap : Array Value) (h : Nat → Bool → List UInt8) (w : World) (hen : ∀ (vs : Array Value) (W : World), (callFunc f vs).run Tryd.prog W = .ok (.enter f vs) W) (arg : Value → Value → Array Value) (harg : ∀ u v, (first ++ #[u, v]) ++ cap = arg u v)
    (hp : ∀ (j : Nat) (b : Bool) (W : World), j < 64 → Ext w W → Calls Tryd.prog f (arg (.int .i64 (j : Nat)) (.bool b)) W (fun e w' => e = .returned (.agg (byteVals (h j b)).toArray) ∧ Ext W w')) (hl : ∀ j b, j < 64 → (h j b).length = 32) (hG : Glob w) :
    Calls Tryd.prog 45 #[.func (.func f) first cap] w (fun e w' => e = .returned (.agg (byteVals (publicD h)).toArray) ∧ Ext w w') := by
  refine calls_enter (l := [(.func (.func f) first cap)]) Tryd.func45 rfl rfl rfl (fun aA hF => ?_)
  refine wp_seq_k (fun K1 hK1 => ?_)
  refine wp_region_lit ?_
  refine wpl_op (i := 0) rfl (o_new (fun g => (.pointer (some ⟨g, 0, none⟩))) (byteVals (List.replicate 32 0)) 37 hF rfl rfl rfl rfl (by kernel_rfl) ?_)
  intro g2 w3 a8 F9 z6 z7 b4 hx5; clear hF
  refine wpList_nil ?_
  refine hK1 _ _ ?_
  clear hK1
  refine wp_seq_k (fun K10 hK10 => ?_)
  refine wp_region_lit ?_
  refine wpl_op (i := 0) rfl (o_new (fun g => (.slice (some ⟨g, 0, none⟩) 0 4096)) (byteVals (List.replicate 4096 0)) 5 F9 rfl rfl rfl rfl (rn_makeC El22 rfl rfl rfl (by decide) (by decide) (by simp [byteVals])) ?_)
  intro g11 w12 a17 F18 z15 z16 b13 hx14; clear F9
  have hf19 := own_room (c := 4096) b13 (by rw [byteVals_len (show List.length (List.replicate 4096 (0 : UInt8)) = _ from List.length_replicate)]) (by decide)
  refine qv 1 (.slice (some ⟨g11, 0, none⟩) 0 4096) F18 rfl (rn_assign (F18.get rfl)) fun _ F21 => ?_; clear F18
  refine wpList_nil ?_
  refine hK10 _ _ ?_
  clear hK10
  refine wp_seq_k (fun K22 hK22 => ?_)
  refine wp_seq_k (fun K23 hK23 => ?_)
  refine wp_region_lit ?_
  refine qv 0 (.int .i64 0) F21 rfl (rn_move rfl) fun _ F25 => ?_; clear F21
  refine wpList_nil ?_
  refine hK23 _ _ ?_
  clear hK23
  refine wp_block ?_
  have b26 := (b4.ext hx14)
  refine wp_loop (fun a' W => ∃ (k : Nat) (Ap : Option Addr) (np : Nat) (cp : Nat) (l : List UInt8), Sl 25 [(0, (.func (.func f) first cap)), (2, (.pointer (some ⟨g2, 0, none⟩))), (3, (.slice Ap np cp)), (8, (.int .i64 (k : Nat)))] a' ∧ (k ≤ 64 ∧ np = 64 * k) ∧ l = manyD h k ∧ Ext w W ∧ Blk W g2 37 (byteVals (List.replicate 32 0)) ∧ W.ownsRow g11 5 1 (.slice Ap np cp) np (byteVals l) ∧ g11 ≤ W.heap.size ∧ w12.heap.size ≤ W.heap.size) (fun a' _ => 64 - (intOf (a'.eval (.tmp 8))).toNat) ⟨0, (some ⟨g11, 0, none⟩), 0, 4096, [], ((((F25.nil.cons (q_get F25 (t := 8) rfl (by first | rfl | (congr 1; omega) | (congr 1; done)))).cons (q_get F25 (t := 3) rfl (by first | rfl | (congr 1; omega) | (congr 1; done)))).cons (q_get F25 (t := 2) rfl rfl)).cons (q_get F25 (t := 0) rfl rfl)), ⟨by omega, by omega⟩, rfl, (((Ext.refl w).trans hx5).trans hx14), b26, hf19, (by omega), (Nat.le_refl _)⟩ ?_
  clear F25
  rintro a27 w28 ⟨k, Ap, np, cp, l, F29, hp31, hp32, hx30, b33, r34, hf35, hf36⟩
  have hL37 := F29
  have z38 := hx30.size
  have z39 := b33.lt
  have z40 := own_form0 r34
  refine wp_seq_k (fun K41 hK41 => ?_)
  refine wp_region_lit ?_
  refine qv 0 (.bool (decide (((k : Nat) : Int) < (64 : Int)))) F29 rfl (rn_lss (F29.get rfl) rfl) fun _ F43 => ?_; clear F29
  refine wpList_nil ?_
  refine hK41 _ _ ?_
  clear hK41
  refine wp_seq_k (fun K44 hK44 => ?_)
  by_cases hc45 : ((k : Nat) : Int) < (64 : Int)
  · skip
    refine wp_cond_true (c_true F43 rfl (decide_eq_true hc45)) ?_
    refine wp_skip ?_
    refine hK44 _ _ ?_
    clear hK44
    refine wp_seq_k (fun K46 hK46 => ?_)
    refine wp_block ?_
    refine wp_seq_k (fun K47 hK47 => ?_)
    refine wp_region_lit ?_
    refine qv 0 (.int .i64 (k : Nat)) F43 rfl (rn_move (F43.get rfl)) fun _ F49 => ?_; clear F43
    refine qv 1 (.int .i64 (k : Nat)) F49 rfl (rn_assign (F49.get rfl)) fun _ F51 => ?_; clear F49
    refine wpList_nil ?_
    refine hK47 _ _ ?_
    clear hK47
    refine wp_seq_k (fun K52 hK52 => ?_)
    refine wp_region_lit ?_
    refine qv 0 (.func (.func f) first cap) F51 rfl (rn_move (F51.get rfl)) fun _ F54 => ?_; clear F51
    refine qv 1 (.int .i64 (k : Nat)) F54 rfl (rn_move (F54.get rfl)) fun _ F56 => ?_; clear F54
    refine wpl_op (i := 2) rfl (o_call F56 rfl rfl rfl rfl (rn_callvc (F56.get rfl) (argsw_2 harg (F56.get rfl) rfl) (hen _ _)) (hp k false _ (by omega) ((Ext.refl w).trans hx30)) ?_)
    rintro _ w57 ⟨rfl, hx58⟩
    refine ⟨_, rfl, ?_⟩; intro a59 F60; clear F56; have z61 := hx58.size
    refine qv 3 (.func (.func f) first cap) F60 rfl (rn_move (F60.get rfl)) fun _ F63 => ?_; clear F60
    refine qv 4 (.int .i64 (k : Nat)) F63 rfl (rn_move (F63.get rfl)) fun _ F65 => ?_; clear F63
    refine wpl_op (i := 5) rfl (o_call F65 rfl rfl rfl rfl (rn_callvc (F65.get rfl) (argsw_2 harg (F65.get rfl) rfl) (hen _ _)) (hp k true _ (by omega) (((Ext.refl w).trans hx30).trans hx58)) ?_)
    rintro _ w66 ⟨rfl, hx67⟩
    refine ⟨_, rfl, ?_⟩; intro a68 F69; clear F65; have z70 := hx67.size
    refine wpl_op (i := 6) rfl (o_new (fun g => (.pointer (some ⟨g, 0, none⟩))) (byteVals (List.replicate 32 0)) 37 F69 rfl rfl rfl rfl (by kernel_rfl) ?_)
    intro g71 w72 a77 F78 z75 z76 b73 hx74; clear F69
    refine wpl_op (i := 7) rfl (o_new (fun g => (.pointer (some ⟨g, 0, none⟩))) (byteVals (List.replicate 32 0)) 37 F78 rfl rfl rfl rfl (by kernel_rfl) ?_)
    intro g79 w80 a85 F86 z83 z84 b81 hx82; clear F78
    have b90 := (b73.ext hx82)
    refine wpl_op (i := 8) rfl (o_store (cells := (byteVals (h k false))) F86 rfl rfl rfl rfl (F86.get rfl) (F86.get rfl) b90 (inf37.trans (congrArg some (byteVals_len (hl k false (by omega))).symm)) ((byteVals_len (show List.length (List.replicate 32 0) = _ from List.length_replicate)).trans (byteVals_len (hl k false (by omega))).symm) (byteVals_one _) ?_)
    intro w87 b88 hg89; have z91 := hg89.size
    have b95 := (b81.grownN hg89 (by omega))
    refine wpl_op (i := 9) rfl (o_store (cells := (byteVals (h k true))) F86 rfl rfl rfl rfl (F86.get rfl) (F86.get rfl) b95 (inf37.trans (congrArg some (byteVals_len (hl k true (by omega))).symm)) ((byteVals_len (show List.length (List.replicate 32 0) = _ from List.length_replicate)).trans (byteVals_len (hl k true (by omega))).symm) (byteVals_one _) ?_)
    intro w92 b93 hg94; have z96 := hg94.size
    refine wpList_nil ?_
    refine hK52 _ _ ?_
    clear hK52
    have F97 := ((((((((F86.nil.c F86 6 rfl).c F86 5 rfl).c F86 4 rfl).c F86 9 rfl).c F86 8 rfl).c F86 3 rfl).c F86 2 rfl).c F86 0 rfl)
    clear F86
    have hx99 : ∃ W, w92.drew = W ∧ Ext w92 W := ⟨_, rfl, (Ext.refl _).drew⟩
    obtain ⟨w98, e100, hx99⟩ := hx99
    have z101 := hx99.size
    refine any_start (fun W => True ∧ Blk W g71 37 (byteVals (h k false)) ∧ Blk W g79 37 (byteVals (h k true))) (fun i => false) 6 #[false, false, false, false, false, false] rfl rfl rfl ?_
    rw [e100]; clear e100
    refine qp 0 (.slice Ap np cp) F97 rfl rfl (fun W => (rn_move (F97.get rfl))) fun _ F103 => ?_; clear F97
    refine qp 1 (.slice (some ⟨g71, 0, none⟩) 32 32) F103 rfl rfl (fun W => (rn_arrAll Tryd.underlying37 inf5 (F103.get rfl))) fun _ F105 => ?_; clear F103
    refine qp 3 (.slice (some ⟨g79, 0, none⟩) 32 32) F105 rfl rfl (fun W => (rn_arrAll Tryd.underlying37 inf5 (F105.get rfl))) fun _ F107 => ?_; clear F105
    refine any_one (i := 2) (by decide +kernel) rfl ?_
    have r108 := (own_ext (own_grownT (own_grownT (own_ext (own_ext (own_ext (own_ext r34 hx58) hx67) hx74) hx82) b90 hg89 (by decide)) b95 hg94 (by decide)) hx99)
    have b109 := ((b88.grownN hg94 (by omega)).ext hx99)
    have hf118 := r108
    refine o_appB (zs := byteVals (l ++ (h k false))) El22 F107 rfl rfl rfl rfl rfl (F107.get rfl) (F107.get rfl) hf118 (Fl.cel (Fl.blk (S := fun b => b = g71) (k := 1) (n := 32) (c := 32) b109 (by rw [byteVals_len (hl k false (by omega)), Nat.mul_one]) (byteVals_one _) (by omega) rfl)).2.2 (by omega) (by omega) (by omega) (byteVals_app _ _) ?_
    intro A110 c111 w112 a119 F120 r113 hg114 z115 z116 hnb117; clear F107; have z121 := hg114.size
    have b122 := (grown_blk hf118 hg114 b109 (by decide))
    have b123 := (grown_blk hf118 hg114 (b93.ext hx99) (by decide))
    refine ⟨fun _ _ => ⟨trivial, b122, b123⟩, ?_⟩
    refine any_one (i := 4) (by decide +kernel) rfl ?_
    have hf132 := r113
    refine o_appB (zs := byteVals ((l ++ (h k false)) ++ (h k true))) El22 F120 rfl rfl rfl rfl rfl (F120.get rfl) (F120.get rfl) hf132 (Fl.cel (Fl.blk (S := fun b => b = g79) (k := 1) (n := 32) (c := 32) b123 (by rw [byteVals_len (hl k true (by omega)), Nat.mul_one]) (byteVals_one _) (by omega) rfl)).2.2 (by omega) (by omega) (by omega) (byteVals_app _ _) ?_
    intro A124 c125 w126 a133 F134 r127 hg128 z129 z130 hnb131; clear F120; have z135 := hg128.size
    have b136 := (grown_blk hf132 hg128 b122 (by decide))
    have b137 := (grown_blk hf132 hg128 b123 (by decide))
    refine ⟨fun _ _ => ⟨trivial, b136, b137⟩, ?_⟩
    refine qp 5 (.slice A124 ((np + 32) + 32) c125) F134 rfl rfl (fun W => (rn_assign (F134.get rfl))) fun _ F139 => ?_; clear F134
    refine any_nil (by decide +kernel) ?_
    refine hK46 _ _ ?_
    clear hK46
    have F140 := ((((((((F139.nil.c F139 6 rfl).c F139 5 rfl).c F139 4 rfl).c F139 9 rfl).c F139 8 rfl).c F139 3 rfl).c F139 2 rfl).c F139 0 rfl)
    clear F139
    refine wp_region_lit ?_
    refine qv 0 (.int .i64 (k + 1 : Nat)) F140 rfl (rn_addN (a := k) (b := 1) (F140.get rfl) rfl (by omega)) fun _ F142 => ?_; clear F140
    refine qv 1 (.int .i64 (k + 1 : Nat)) F142 rfl (rn_move (F142.get rfl)) fun _ F144 => ?_; clear F142
    refine wpList_nil ?_
    have b145 := (grown_blk hf132 hg128 (grown_blk hf118 hg114 (((((((b33.ext hx58).ext hx67).ext hx74).ext hx82).grownN hg89 (by omega)).grownN hg94 (by omega)).ext hx99) (by decide)) (by decide))
    refine ⟨⟨(k + 1), A124, (np + 32) + 32, c125, (l ++ (h k false)) ++ (h k true), ((((F144.nil.cons (q_get F144 (t := 8) rfl (by first | rfl | (congr 1; omega) | (congr 1; done)))).cons (q_get F144 (t := 3) rfl (by first | rfl | (congr 1; omega) | (congr 1; done)))).cons (q_get F144 (t := 2) rfl rfl)).cons (q_get F144 (t := 0) rfl rfl)), ⟨by omega, by omega⟩, (by rw [hp32]; exact manyD_step h k), (ext_row (ext_row (((((((((Ext.refl w).trans hx30).trans hx58).trans hx67).trans hx74).trans hx82).grownN hg89 (by omega)).grownN hg94 (by omega)).trans hx99) hg114 hf118 (by omega)) hg128 hf132 (by omega)), b145, r127, (by omega), (by omega)⟩, ?_⟩
    rw [F144.get (t := 8) rfl, hL37.get (t := 8) rfl]; simp [intOf] <;> omega
  · skip
    refine wp_cond_false (c_false F43 rfl (decide_eq_false hc45)) ?_
    refine wp_exit ?_
    refine exit_then ?_
    refine exit_then ?_
    refine exit_here ?_
    refine hK22 _ _ ?_
    clear hK22
    refine wp_seq_k (fun K146 hK146 => ?_)
    refine wp_region_lit ?_
    refine qv 0 (.slice Ap np cp) F43 rfl (rn_move (F43.get rfl)) fun _ F148 => ?_; clear F43
    refine wpl_op (i := 1) rfl (o_call F148 rfl rfl rfl rfl (rn_call (args2 rfl (F148.get rfl)) rfl (by kernel_rfl)) (tagged_at ([111, 110, 101]) (v := (.slice Ap np cp)) (n := np) l _ (Fl.own (S := fun b => g11 ≤ b) r34 (fun b hb => hb) (byteVals_one _)) (hG.ext ((Ext.refl w).trans hx30)) (by simp <;> omega) (by omega)) ?_)
    rintro _ w149 ⟨rfl, hx150⟩
    refine ⟨_, rfl, ?_⟩; intro a151 F152; clear F148; have z153 := hx150.size
    have b157 := (b33.ext hx150)
    refine wpl_op (i := 2) rfl (o_store (cells := (byteVals (tagged ([111, 110, 101]) l))) F152 rfl rfl rfl rfl (F152.get rfl) (F152.get rfl) b157 (inf37.trans (congrArg some (byteVals_len (tagged_len _ _)).symm)) ((byteVals_len (show List.length (List.replicate 32 0) = _ from List.length_replicate)).trans (byteVals_len (tagged_len _ _)).symm) (byteVals_one _) ?_)
    intro w154 b155 hg156; have z158 := hg156.size
    refine wpList_nil ?_
    refine hK146 _ _ ?_
    clear hK146
    refine wp_ret ?_
    refine retC F152 rfl rfl b155 Tryd.underlying37 rfl (inf37.trans (congrArg some (byteVals_len (tagged_len _ _)).symm)) ?_
    have hk : k = 64 := by omega
    subst hk
    exact ⟨by rw [publicD, ← hp32], ((((Ext.refl w).trans hx30).trans hx150).grownN hg156 (by omega))⟩

set_option maxRecDepth 100000 in
set_option maxHeartbeats 1000000 in
theorem publics_any (A : Option Addr) (c : Nat) (sd : List UInt8) (many : Nat) (used : Int) (w : World) (hf : Fl S w 1 (.slice A sd.length c) sd.length (byteVals sd)) (hG : Glob w) (hsd : sd.length ≤ 64) (hm : many ≤ 4096) :
    Calls Tryd.prog 31 #[.agg #[.slice A sd.length c, .int .i64 (many : Nat), .int .i64 used]] w (fun e w' => ∃ A c, e = .returned (.slice A many c) ∧ Fl (fun b => w.heap.size ≤ b) w' 32 (.slice A many c) many (digVals (pubsL sd many)) ∧ Ext w w') := by
  have hc : Fl (Clip S w) w 1 (.slice A sd.length c) sd.length (byteVals sd) := hf.clip
  have hcc := (Fl.cel hc).2.1
  refine calls_enter (l := [(.agg #[(.slice A sd.length c), (.int .i64 (many : Nat)), (.int .i64 used)])]) Tryd.func31 rfl rfl rfl (fun aA hF => ?_)
  refine wp_seq_k (fun K1 hK1 => ?_)
  refine wp_region_lit ?_
  refine wpl_op (i := 0) rfl (o_new (fun g => (.pointer (some ⟨g, 0, none⟩))) [(.slice A sd.length c), (.int .i64 (many : Nat)), (.int .i64 used)] 24 hF rfl rfl rfl rfl (rn_box (hF.get rfl) (by kernel_rfl)) ?_)
  intro g2 w3 a8 F9 z6 z7 b4 hx5; clear hF
  refine qv 1 (.slice none 0 0) F9 rfl (rn_assign rfl) fun _ F11 => ?_; clear F9
  refine wpList_nil ?_
  refine hK1 _ _ ?_
  clear hK1
  refine wp_seq_k (fun K12 hK12 => ?_)
  refine wp_seq_k (fun K13 hK13 => ?_)
  refine wp_region_lit ?_
  refine qv 0 (.pointer (some ⟨g2, 1, none⟩)) F11 rfl (rn_field Tryd.underlying24 rfl (by kernel_rfl) (F11.get rfl) rfl) fun _ F15 => ?_; clear F11
  refine qv 1 (.int .i64 (many : Nat)) F15 rfl (rn_load (isAgg_no Tryd.underlying3 rfl) (F15.get rfl) (b4.rule.1 1)) fun _ F17 => ?_; clear F15
  refine qv 2 (.int .i64 0) F17 rfl (rn_move rfl) fun _ F19 => ?_; clear F17
  refine wpList_nil ?_
  refine hK13 _ _ ?_
  clear hK13
  refine wp_block ?_
  refine wp_loop (fun a' W => ∃ (k : Nat) (Ap : Option Addr) (np : Nat) (cp : Nat) (l : List (List UInt8)), Sl 20 [(0, (.agg #[(.slice A sd.length c), (.int .i64 (many : Nat)), (.int .i64 used)])), (1, (.pointer (some ⟨g2, 0, none⟩))), (2, (.slice Ap np cp)), (5, (.int .i64 (many : Nat))), (6, (.int .i64 (k : Nat)))] a' ∧ (k ≤ many ∧ np = k) ∧ l = pubsL sd k ∧ Ext w W ∧ Blk W g2 24 [(.slice A sd.length c), (.int .i64 (many : Nat)), (.int .i64 used)] ∧ W.ownsRow w3.heap.size 37 32 (.slice Ap np cp) np (digVals l) ∧ w3.heap.size ≤ W.heap.size ∧ w3.heap.size ≤ W.heap.size) (fun a' _ => many - (intOf (a'.eval (.tmp 6))).toNat) ⟨0, none, 0, 0, [], (((((F19.nil.cons (q_get F19 (t := 6) rfl (by first | rfl | (congr 1; omega) | (congr 1; done)))).cons (q_get F19 (t := 5) rfl rfl)).cons (q_get F19 (t := 2) rfl (by first | rfl | (congr 1; omega) | (congr 1; done)))).cons (q_get F19 (t := 1) rfl rfl)).cons (q_get F19 (t := 0) rfl rfl)), ⟨by omega, by omega⟩, rfl, ((Ext.refl w).trans hx5), b4, (own_nil w3 w3.heap.size 37 32), (by omega), (Nat.le_refl _)⟩ ?_
  clear F19
  rintro a20 w21 ⟨k, Ap, np, cp, l, F22, hp24, hp25, hx23, b26, r27, hf28, hf29⟩
  have hL30 := F22
  have z31 := hx23.size
  have z32 := b26.lt
  have z33 := own_form0 r27
  have hl32 : All32 l := by rw [hp25]; exact pubsL_32 _ _
  refine wp_seq_k (fun K34 hK34 => ?_)
  refine wp_region_lit ?_
  refine qv 0 (.bool (decide (((k : Nat) : Int) < ((many : Nat) : Int)))) F22 rfl (rn_lss (F22.get rfl) (F22.get rfl)) fun _ F36 => ?_; clear F22
  refine wpList_nil ?_
  refine hK34 _ _ ?_
  clear hK34
  refine wp_seq_k (fun K37 hK37 => ?_)
  by_cases hc38 : ((k : Nat) : Int) < ((many : Nat) : Int)
  · skip
    refine wp_cond_true (c_true F36 rfl (decide_eq_true hc38)) ?_
    refine wp_skip ?_
    refine hK37 _ _ ?_
    clear hK37
    refine wp_seq_k (fun K39 hK39 => ?_)
    refine wp_block ?_
    refine wp_seq_k (fun K40 hK40 => ?_)
    refine wp_region_lit ?_
    refine qv 0 (.int .i64 (k : Nat)) F36 rfl (rn_move (F36.get rfl)) fun _ F42 => ?_; clear F36
    refine qv 1 (.int .i64 (k : Nat)) F42 rfl (rn_assign (F42.get rfl)) fun _ F44 => ?_; clear F42
    refine wpList_nil ?_
    refine hK40 _ _ ?_
    clear hK40
    refine wp_region_lit ?_
    refine qv 0 (.slice Ap np cp) F44 rfl (rn_move (F44.get rfl)) fun _ F46 => ?_; clear F44
    refine qv 1 (.pointer (some ⟨g2, 0, none⟩)) F46 rfl (rn_field Tryd.underlying24 rfl (by kernel_rfl) (F46.get rfl) rfl) fun _ F48 => ?_; clear F46
    refine qv 2 (.slice A sd.length c) F48 rfl (rn_load (isAgg_no Tryd.underlying22 rfl) (F48.get rfl) (b26.rule.1 0)) fun _ F50 => ?_; clear F48
    refine qv 3 (.int .i64 (k : Nat)) F50 rfl (rn_move (F50.get rfl)) fun _ F52 => ?_; clear F50
    refine qv 4 (.agg #[(.slice A sd.length c), (.int .i64 (k : Nat))]) F52 rfl (rn_build (parts2 (F52.get rfl) (F52.get rfl)) (by kernel_rfl)) fun _ F54 => ?_; clear F52
    refine qv 5 (.func (.func 36) #[(.agg #[(.slice A sd.length c), (.int .i64 (k : Nat))])] #[]) F54 rfl (rn_makeFunc (args1 (F54.get rfl)) (args0)) fun _ F56 => ?_; clear F54
    have d57 := (hc.ext hx23)
    have hf58 := d57
    have hf59 := (hG.ext ((Ext.refl w).trans hx23))
    refine wpl_op (i := 6) rfl (o_call F56 rfl rfl rfl rfl (rn_call (args1 (F56.get rfl)) rfl (by kernel_rfl)) (public_any 36 #[(.agg #[(.slice A sd.length c), (.int .i64 (k : Nat))])] #[] (hashD sd k) _ (fun _ _ => by kernel_rfl) (fun u v => #[(.agg #[(.slice A sd.length c), (.int .i64 (k : Nat))]), u, v]) (fun u v => by simp) (fun j b W hj hx => hash_at (v := (.slice A sd.length c)) (m := sd.length) sd k j b W (hf58.ext hx) (hf59.ext hx) (by omega) (by omega) (by omega)) (fun _ _ _ => hashD_len _ _ _ _) hf59) ?_)
    rintro _ w60 ⟨rfl, hx61⟩
    refine ⟨_, rfl, ?_⟩; intro a62 F63; clear F56; have z64 := hx61.size
    have r65 := (own_ext r27 hx61)
    have hf66 := r65
    refine wpl_op (i := 7) rfl (o_new (fun g => (.slice (some ⟨g, 0, none⟩) 1 1)) (byteVals ((publicD (hashD sd k)))) 37 F63 rfl rfl rfl rfl (rn_buildSlice (parts1 (F63.get rfl)) (build_wholeE (vs := [(.agg (byteVals (publicD (hashD sd k))).toArray)]) El28 rfl rfl (fun v hv => by rw [List.mem_singleton.1 hv]; exact (byteVals_len (publicD_len _))) (by decide) (by decide) (by simp [Value.cells, byteVals]))) ?_)
    intro g67 w68 a73 F74 z71 z72 b69 hx70; clear F63
    have nb75 := own_new (g := g67) hf66 (by omega)
    have r76 := (own_ext r65 hx70)
    have hf85 := r76
    have nb86 : some g67 ≠ (Value.slice Ap np cp).ownBlock := nb75
    have z87 := b69.lt
    refine wpl_op (i := 8) rfl (o_appB (zs := digVals (l ++ ([publicD (hashD sd k)]))) El28 F74 rfl rfl rfl rfl rfl (F74.get rfl) (F74.get rfl) hf85 (Fl.cel (Fl.digblk (S := fun b => b = g67) b69 (All32.sing (publicD_len _)) (by simp [digVals, byteVals]))).2.2 (by omega) (by omega) (by omega) (digVals_app _ _) ?_)
    intro A77 c78 w79 a88 F89 r80 hg81 z82 z83 hnb84; clear F74; have z90 := hg81.size
    have nb91 := hnb84 g67 (by omega) nb86
    refine qv 9 (.slice A77 (np + 1) c78) F89 rfl (rn_assign (F89.get rfl)) fun _ F93 => ?_; clear F89
    refine wpList_nil ?_
    refine hK39 _ _ ?_
    clear hK39
    have F94 := (((((((F93.nil.c F93 3 rfl).c F93 7 rfl).c F93 6 rfl).c F93 5 rfl).c F93 2 rfl).c F93 1 rfl).c F93 0 rfl)
    clear F93
    refine wp_region_lit ?_
    refine qv 0 (.int .i64 (k + 1 : Nat)) F94 rfl (rn_addN (a := k) (b := 1) (F94.get rfl) rfl (by omega)) fun _ F96 => ?_; clear F94
    refine qv 1 (.int .i64 (k + 1 : Nat)) F96 rfl (rn_move (F96.get rfl)) fun _ F98 => ?_; clear F96
    refine wpList_nil ?_
    have b99 := (grown_blk hf85 hg81 ((b26.ext hx61).ext hx70) (by decide))
    refine ⟨⟨(k + 1), A77, np + 1, c78, l ++ ([publicD (hashD sd k)]), (((((F98.nil.cons (q_get F98 (t := 6) rfl (by first | rfl | (congr 1; omega) | (congr 1; done)))).cons (q_get F98 (t := 5) rfl rfl)).cons (q_get F98 (t := 2) rfl (by first | rfl | (congr 1; omega) | (congr 1; done)))).cons (q_get F98 (t := 1) rfl rfl)).cons (q_get F98 (t := 0) rfl rfl)), ⟨by omega, by omega⟩, (by rw [hp25]; exact pubsL_step sd k), (ext_row ((((Ext.refl w).trans hx23).trans hx61).trans hx70) hg81 hf85 (by omega)), b99, r80, (by omega), (by omega)⟩, ?_⟩
    rw [F98.get (t := 6) rfl, hL30.get (t := 6) rfl]; simp [intOf] <;> omega
  · skip
    refine wp_cond_false (c_false F36 rfl (decide_eq_false hc38)) ?_
    refine wp_exit ?_
    refine exit_then ?_
    refine exit_then ?_
    refine exit_here ?_
    refine hK12 _ _ ?_
    clear hK12
    refine wp_seq_k (fun K100 hK100 => ?_)
    refine wp_region_lit ?_
    refine qv 0 (.slice Ap np cp) F36 rfl (rn_move (F36.get rfl)) fun _ F102 => ?_; clear F36
    refine qv 1 (.slice Ap np cp) F102 rfl (rn_assign (F102.get rfl)) fun _ F104 => ?_; clear F102
    refine wpList_nil ?_
    refine hK100 _ _ ?_
    clear hK100
    refine wp_ret ?_
    refine ret1 F104 rfl rfl ?_
    have hk : k = many := by omega
    have hrow := Fl.own (S := fun b => w.heap.size ≤ b) r27 (fun b hb => by omega) (digVals_one _)
    have hnp : np = many := by omega
    have hx := ((Ext.refl w).trans hx23)
    have hl := hp25
    subst hk
    subst hl
    subst hnp
    exact ⟨Ap, cp, rfl, hrow, hx⟩

theorem publics_at {v : Value} {m : Nat} (sd : List UInt8) (many : Nat) (used : Int) (w : World) (hf : Fl S w 1 v m (byteVals sd)) (hG : Glob w) (hsd : m ≤ 64) (hm : many ≤ 4096) :
    Calls Tryd.prog 31 #[.agg #[v, .int .i64 (many : Nat), .int .i64 used]] w (fun e w' => ∃ A c, e = .returned (.slice A many c) ∧ Fl (fun b => w.heap.size ≤ b) w' 32 (.slice A many c) many (digVals (pubsL sd many)) ∧ Ext w w') := by
  have hm := hf.blen
  subst hm
  obtain ⟨A, c, rfl, _⟩ := hf.form
  exact publics_any A c sd many used w hf hG hsd hm

end Go.Proofs.YtmjgjopbeokajaaDoor

namespace Go.Proofs.YtmjgjopbeokajaaDoor
open Go.RowKit

variable {S S' : Nat → Prop}

def pairsL (h : Nat → Bool → List UInt8) (k : Nat) : List (List UInt8) := (List.range k).flatMap fun j => [h j false, h j true]
theorem pairsL_step (h : Nat → Bool → List UInt8) (k : Nat) : pairsL h k ++ [h k false, h k true] = pairsL h (k + 1) := by
  rw [pairsL, pairsL, List.range_succ, List.flatMap_append, List.flatMap_cons, List.flatMap_nil, List.append_nil]
theorem pairsL_flat (h : Nat → Bool → List UInt8) : ∀ k, (pairsL h k).flatten = manyD h k
  | 0 => rfl
  | k + 1 => by rw [← pairsL_step, ← manyD_step, List.flatten_append, pairsL_flat h k]; simp
theorem pairsL_32 {h : Nat → Bool → List UInt8} (hl : ∀ j b, (h j b).length = 32) (k : Nat) : All32 (pairsL h k) := fun x hx => by
  simp only [pairsL, List.mem_flatMap] at hx
  obtain ⟨j, _, hx⟩ := hx
  rcases List.mem_cons.1 hx with rfl | hx
  · exact hl _ _
  · rw [List.mem_singleton.1 hx]; exact hl _ _
theorem flatten_step {l : List (List UInt8)} {k : Nat} {x : List UInt8} (h : k < l.length) (hx : x = (l.take k).flatten) : x ++ l.getD k [] = (l.take (k + 1)).flatten := by
  rw [hx, List.take_add_one, List.getD_eq_getElem?_getD, List.getElem?_eq_getElem h, List.flatten_append]; simp
set_option maxRecDepth 100000 in
set_option maxHeartbeats 1000000 in
theorem rone_any (A : Option Addr) (c : Nat) (l : List (List UInt8)) (w : World) (h32 : All32 l) (hf : Fl S w 32 (.slice A l.length c) l.length (digVals l)) (hb : l.length ≤ 128) :
    Calls Tryd.prog 47 #[.slice A l.length c] w (fun e w' => e = .returned (.agg (byteVals (tagged [111, 110, 101] l.flatten)).toArray) ∧ Ext w w') := by
  have hc : Fl (Clip S w) w 32 (.slice A l.length c) l.length (digVals l) := hf.clip
  have hcc := (Fl.cel hc).2.1
  refine calls_enter (l := [(.slice A l.length c)]) Tryd.func47 rfl rfl rfl (fun aA hF => ?_)
  refine wp_seq_k (fun K1 hK1 => ?_)
  refine wp_region_lit ?_
  refine wpl_op (i := 0) rfl (o_new (fun g => (.pointer (some ⟨g, 0, none⟩))) (byteVals (List.replicate 32 0)) 37 hF rfl rfl rfl rfl (by kernel_rfl) ?_)
  intro g2 w3 a8 F9 z6 z7 b4 hx5; clear hF
  refine wpList_nil ?_
  refine hK1 _ _ ?_
  clear hK1
  refine wp_seq_k (fun K10 hK10 => ?_)
  refine wp_region_lit ?_
  refine wpl_op (i := 0) rfl (o_new (fun g => (.slice (some ⟨g, 0, none⟩) 0 0)) [] 5 F9 rfl rfl rfl rfl (rn_buildSlice (parts0 ) (by kernel_rfl)) ?_)
  intro g11 w12 a17 F18 z15 z16 b13 hx14; clear F9
  refine qv 1 (.slice (some ⟨g11, 0, none⟩) 0 0) F18 rfl (rn_assign (F18.get rfl)) fun _ F20 => ?_; clear F18
  refine wpList_nil ?_
  refine hK10 _ _ ?_
  clear hK10
  refine wp_seq_k (fun K21 hK21 => ?_)
  refine wp_seq_k (fun K22 hK22 => ?_)
  refine wp_region_lit ?_
  refine qv 0 (.int .i64 0) F20 rfl (rn_assign rfl) fun _ F24 => ?_; clear F20
  refine wpList_nil ?_
  refine hK22 _ _ ?_
  clear hK22
  refine wp_block ?_
  have hf25 := own_blk0 (k := 1) b13
  have b26 := (b4.ext hx14)
  refine wp_loop (fun a' W => ∃ (k : Nat) (Ap : Option Addr) (np : Nat) (cp : Nat) (x : List UInt8), Sl 20 [(0, (.slice A l.length c)), (2, (.pointer (some ⟨g2, 0, none⟩))), (3, (.slice Ap np cp)), (4, (.int .i64 (k : Nat)))] a' ∧ (k ≤ l.length ∧ np = 32 * k) ∧ x = (l.take k).flatten ∧ Ext w W ∧ Blk W g2 37 (byteVals (List.replicate 32 0)) ∧ W.ownsRow g11 5 1 (.slice Ap np cp) np (byteVals x) ∧ g11 ≤ W.heap.size ∧ w12.heap.size ≤ W.heap.size) (fun a' _ => l.length - (intOf (a'.eval (.tmp 4))).toNat) ⟨0, (some ⟨g11, 0, none⟩), 0, 0, [], ((((F24.nil.cons (q_get F24 (t := 4) rfl (by first | rfl | (congr 1; omega) | (congr 1; done)))).cons (q_get F24 (t := 3) rfl (by first | rfl | (congr 1; omega) | (congr 1; done)))).cons (q_get F24 (t := 2) rfl rfl)).cons (q_get F24 (t := 0) rfl rfl)), ⟨by omega, by omega⟩, rfl, (((Ext.refl w).trans hx5).trans hx14), b26, hf25, (by omega), (Nat.le_refl _)⟩ ?_
  clear F24
  rintro a27 w28 ⟨k, Ap, np, cp, x, F29, hp31, hp32, hx30, b33, r34, hf35, hf36⟩
  have hL37 := F29
  have z38 := hx30.size
  have z39 := b33.lt
  have z40 := own_form0 r34
  refine wp_seq_k (fun K41 hK41 => ?_)
  refine wp_seq_k (fun K42 hK42 => ?_)
  refine wp_region_lit ?_
  refine qv 0 (.int .i64 (k : Nat)) F29 rfl (rn_move (F29.get rfl)) fun _ F44 => ?_; clear F29
  refine qv 1 (.slice A l.length c) F44 rfl (rn_move (F44.get rfl)) fun _ F46 => ?_; clear F44
  refine qv 2 (.int .i64 (l.length : Nat)) F46 rfl (rn_len_slice Tryd.underlying28 (F46.get rfl)) fun _ F48 => ?_; clear F46
  refine qv 3 (.bool (decide (((k : Nat) : Int) < ((l.length : Nat) : Int)))) F48 rfl (rn_lss (F48.get rfl) (F48.get rfl)) fun _ F50 => ?_; clear F48
  refine wpList_nil ?_
  refine hK42 _ _ ?_
  clear hK42
  by_cases hc51 : ((k : Nat) : Int) < ((l.length : Nat) : Int)
  · skip
    refine wp_cond_true (c_true F50 rfl (decide_eq_true hc51)) ?_
    refine wp_skip ?_
    refine hK41 _ _ ?_
    clear hK41
    refine wp_seq_k (fun K52 hK52 => ?_)
    refine wp_block ?_
    refine wp_region_lit ?_
    refine qv 0 (.slice Ap np cp) F50 rfl (rn_move (F50.get rfl)) fun _ F54 => ?_; clear F50
    refine qv 1 (.slice A l.length c) F54 rfl (rn_move (F54.get rfl)) fun _ F56 => ?_; clear F54
    refine qv 2 (.int .i64 (k : Nat)) F56 rfl (rn_move (F56.get rfl)) fun _ F58 => ?_; clear F56
    have d62 := (hc.ext hx30)
    obtain ⟨b59, o60, hA61, -⟩ := Fl.at d62 (by omega)
    refine qv 3 (.pointer (some ⟨b59, o60 + k * 32, none⟩)) F58 rfl (rn_indexE Tryd.underlying28 inf37 ((F58.get rfl).trans (by rw [hA61])) (F58.get rfl) (by omega : (0 : Int) ≤ (k : Nat)) (by omega : ((k : Nat) : Int) < ((l.length : Nat) : Int)) (by omega)) fun _ F64 => ?_; clear F58
    refine qv 4 (.slice (some ⟨b59, o60 + k * 32, none⟩) 32 32) F64 rfl (rn_arrAll Tryd.underlying37 inf5 (F64.get rfl)) fun _ F66 => ?_; clear F64
    have hf75 := r34
    refine wpl_op (i := 5) rfl (o_appB (zs := byteVals (x ++ (l.getD k []))) El22 F66 rfl rfl rfl rfl rfl (F66.get rfl) (F66.get rfl) hf75 (Fl.cel (Fl.digPart (i := k) d62 hA61 h32 (by omega) (by omega))).2.2 (by omega) (by omega) (by omega) (byteVals_app _ _) ?_)
    intro A67 c68 w69 a76 F77 r70 hg71 z72 z73 hnb74; clear F66; have z78 := hg71.size
    refine qv 6 (.slice A67 (np + 32) c68) F77 rfl (rn_assign (F77.get rfl)) fun _ F80 => ?_; clear F77
    refine wpList_nil ?_
    refine hK52 _ _ ?_
    clear hK52
    have F81 := (((((F80.nil.c F80 9 rfl).c F80 4 rfl).c F80 3 rfl).c F80 2 rfl).c F80 0 rfl)
    clear F80
    refine wp_region_lit ?_
    refine qv 0 (.int .i64 (k : Nat)) F81 rfl (rn_move (F81.get rfl)) fun _ F83 => ?_; clear F81
    refine qv 1 (.int .i64 (k + 1 : Nat)) F83 rfl (rn_addN (a := k) (b := 1) (F83.get rfl) rfl (by omega)) fun _ F85 => ?_; clear F83
    refine qv 2 (.int .i64 (k + 1 : Nat)) F85 rfl (rn_assign (F85.get rfl)) fun _ F87 => ?_; clear F85
    refine wpList_nil ?_
    have b88 := (grown_blk hf75 hg71 b33 (by decide))
    refine ⟨⟨(k + 1), A67, np + 32, c68, x ++ (l.getD k []), ((((F87.nil.cons (q_get F87 (t := 4) rfl (by first | rfl | (congr 1; omega) | (congr 1; done)))).cons (q_get F87 (t := 3) rfl (by first | rfl | (congr 1; omega) | (congr 1; done)))).cons (q_get F87 (t := 2) rfl rfl)).cons (q_get F87 (t := 0) rfl rfl)), ⟨by omega, by omega⟩, (flatten_step (by omega) hp32), (ext_row ((Ext.refl w).trans hx30) hg71 hf75 (by omega)), b88, r70, (by omega), (by omega)⟩, ?_⟩
    rw [F87.get (t := 4) rfl, hL37.get (t := 4) rfl]; simp [intOf] <;> omega
  · skip
    refine wp_cond_false (c_false F50 rfl (decide_eq_false hc51)) ?_
    refine wp_exit ?_
    refine exit_then ?_
    refine exit_then ?_
    refine exit_here ?_
    refine hK21 _ _ ?_
    clear hK21
    refine wp_seq_k (fun K89 hK89 => ?_)
    refine wp_region_lit ?_
    refine qv 0 (.slice Ap np cp) F50 rfl (rn_move (F50.get rfl)) fun _ F91 => ?_; clear F50
    refine wpl_op (i := 1) rfl (o_call F91 rfl rfl rfl rfl (rn_call (args2 rfl (F91.get rfl)) rfl (by kernel_rfl)) (rtagged_at ([111, 110, 101]) (v := (.slice Ap np cp)) (n := np) x _ (Fl.own (S := fun b => g11 ≤ b) r34 (fun b hb => hb) (byteVals_one _)) (by decide) (by omega)) ?_)
    rintro _ w92 ⟨rfl, hx93⟩
    refine ⟨_, rfl, ?_⟩; intro a94 F95; clear F91; have z96 := hx93.size
    have b100 := (b33.ext hx93)
    refine wpl_op (i := 2) rfl (o_store (cells := (byteVals (tagged ([111, 110, 101]) x))) F95 rfl rfl rfl rfl (F95.get rfl) (F95.get rfl) b100 (inf37.trans (congrArg some (byteVals_len (tagged_len _ _)).symm)) ((byteVals_len (show List.length (List.replicate 32 0) = _ from List.length_replicate)).trans (byteVals_len (tagged_len _ _)).symm) (byteVals_one _) ?_)
    intro w97 b98 hg99; have z101 := hg99.size
    refine wpList_nil ?_
    refine hK89 _ _ ?_
    clear hK89
    have F102 := (((((F95.nil.c F95 9 rfl).c F95 4 rfl).c F95 3 rfl).c F95 2 rfl).c F95 0 rfl)
    clear F95
    refine wp_ret ?_
    refine retC F102 rfl rfl b98 Tryd.underlying37 rfl (inf37.trans (congrArg some (byteVals_len (tagged_len _ _)).symm)) ?_
    have hk : k = l.length := by omega
    have hx0 := hp32
    rw [hk, List.take_length] at hx0
    subst hx0
    exact ⟨rfl, ((((Ext.refl w).trans hx30).trans hx93).grownN hg99 (by omega))⟩

theorem rone_at {v : Value} {m : Nat} (l : List (List UInt8)) (w : World) (h32 : All32 l) (hf : Fl S w 32 v m (digVals l)) (hb : m ≤ 128) :
    Calls Tryd.prog 47 #[v] w (fun e w' => e = .returned (.agg (byteVals (tagged [111, 110, 101] l.flatten)).toArray) ∧ Ext w w') := by
  have hm := Fl.dlen hf h32
  subst hm
  obtain ⟨A, c, rfl, _⟩ := hf.form
  exact rone_any A c l w h32 hf hb

set_option maxRecDepth 100000 in
set_option maxHeartbeats 1000000 in
theorem keys_any (A : Option Addr) (c : Nat) (sd : List UInt8) (many : Nat) (used : Int) (w : World) (hf : Fl S w 1 (.slice A sd.length c) sd.length (byteVals sd)) (hsd : sd.length ≤ 64) (hm : many ≤ 4096) :
    Calls Tryd.prog 37 #[.agg #[.slice A sd.length c, .int .i64 (many : Nat), .int .i64 used]] w (fun e w' => ∃ A c, e = .returned (.slice A many c) ∧ Fl (fun b => w.heap.size ≤ b) w' 32 (.slice A many c) many (digVals (pubsL sd many)) ∧ Ext w w') := by
  have hc : Fl (Clip S w) w 1 (.slice A sd.length c) sd.length (byteVals sd) := hf.clip
  have hcc := (Fl.cel hc).2.1
  refine calls_enter (l := [(.agg #[(.slice A sd.length c), (.int .i64 (many : Nat)), (.int .i64 used)])]) Tryd.func37 rfl rfl rfl (fun aA hF => ?_)
  refine wp_seq_k (fun K1 hK1 => ?_)
  refine wp_region_lit ?_
  refine wpl_op (i := 0) rfl (o_new (fun g => (.pointer (some ⟨g, 0, none⟩))) [(.slice A sd.length c), (.int .i64 (many : Nat)), (.int .i64 used)] 24 hF rfl rfl rfl rfl (rn_box (hF.get rfl) (by kernel_rfl)) ?_)
  intro g2 w3 a8 F9 z6 z7 b4 hx5; clear hF
  refine qv 1 (.slice none 0 0) F9 rfl (rn_assign rfl) fun _ F11 => ?_; clear F9
  refine wpList_nil ?_
  refine hK1 _ _ ?_
  clear hK1
  refine wp_seq_k (fun K12 hK12 => ?_)
  refine wp_region_lit ?_
  refine wpl_op (i := 0) rfl (o_new (fun g => (.slice (some ⟨g, 0, none⟩) 0 0)) [] 37 F11 rfl rfl rfl rfl (rn_buildSlice (parts0 ) (by kernel_rfl)) ?_)
  intro g13 w14 a19 F20 z17 z18 b15 hx16; clear F11
  refine qv 1 (.slice (some ⟨g13, 0, none⟩) 0 0) F20 rfl (rn_assign (F20.get rfl)) fun _ F22 => ?_; clear F20
  refine wpList_nil ?_
  refine hK12 _ _ ?_
  clear hK12
  refine wp_seq_k (fun K23 hK23 => ?_)
  refine wp_seq_k (fun K24 hK24 => ?_)
  refine wp_region_lit ?_
  refine qv 0 (.int .i64 0) F22 rfl (rn_assign rfl) fun _ F26 => ?_; clear F22
  refine wpList_nil ?_
  refine hK24 _ _ ?_
  clear hK24
  refine wp_block ?_
  have hf27 := own_blk0 (k := 32) b15
  have b28 := (b4.ext hx16)
  refine wp_loop (fun a' W => ∃ (k : Nat) (Ap : Option Addr) (np : Nat) (cp : Nat) (l : List (List UInt8)), Sl 38 [(0, (.agg #[(.slice A sd.length c), (.int .i64 (many : Nat)), (.int .i64 used)])), (1, (.pointer (some ⟨g2, 0, none⟩))), (2, (.slice none 0 0)), (3, (.slice Ap np cp)), (4, (.int .i64 (k : Nat)))] a' ∧ (k ≤ many ∧ np = k) ∧ l = pubsL sd k ∧ Ext w W ∧ Blk W g2 24 [(.slice A sd.length c), (.int .i64 (many : Nat)), (.int .i64 used)] ∧ W.ownsRow g13 37 32 (.slice Ap np cp) np (digVals l) ∧ g13 ≤ W.heap.size ∧ w14.heap.size ≤ W.heap.size) (fun a' _ => many - (intOf (a'.eval (.tmp 4))).toNat) ⟨0, (some ⟨g13, 0, none⟩), 0, 0, [], (((((F26.nil.cons (q_get F26 (t := 4) rfl (by first | rfl | (congr 1; omega) | (congr 1; done)))).cons (q_get F26 (t := 3) rfl (by first | rfl | (congr 1; omega) | (congr 1; done)))).cons (q_get F26 (t := 2) rfl rfl)).cons (q_get F26 (t := 1) rfl rfl)).cons (q_get F26 (t := 0) rfl rfl)), ⟨by omega, by omega⟩, rfl, (((Ext.refl w).trans hx5).trans hx16), b28, hf27, (by omega), (Nat.le_refl _)⟩ ?_
  clear F26
  rintro a29 w30 ⟨k, Ap, np, cp, l, F31, hp33, hp34, hx32, b35, r36, hf37, hf38⟩
  have hL39 := F31
  have z40 := hx32.size
  have z41 := b35.lt
  have z42 := own_form0 r36
  have hl32 : All32 l := by rw [hp34]; exact pubsL_32 _ _
  refine wp_seq_k (fun K43 hK43 => ?_)
  refine wp_seq_k (fun K44 hK44 => ?_)
  refine wp_region_lit ?_
  refine qv 0 (.int .i64 (k : Nat)) F31 rfl (rn_move (F31.get rfl)) fun _ F46 => ?_; clear F31
  refine qv 1 (.pointer (some ⟨g2, 1, none⟩)) F46 rfl (rn_field Tryd.underlying24 rfl (by kernel_rfl) (F46.get rfl) rfl) fun _ F48 => ?_; clear F46
  refine qv 2 (.int .i64 (many : Nat)) F48 rfl (rn_load (isAgg_no Tryd.underlying3 rfl) (F48.get rfl) (b35.rule.1 1)) fun _ F50 => ?_; clear F48
  refine qv 3 (.bool (decide (((k : Nat) : Int) < ((many : Nat) : Int)))) F50 rfl (rn_lss (F50.get rfl) (F50.get rfl)) fun _ F52 => ?_; clear F50
  refine wpList_nil ?_
  refine hK44 _ _ ?_
  clear hK44
  by_cases hc53 : ((k : Nat) : Int) < ((many : Nat) : Int)
  · skip
    refine wp_cond_true (c_true F52 rfl (decide_eq_true hc53)) ?_
    refine wp_skip ?_
    refine hK43 _ _ ?_
    clear hK43
    refine wp_seq_k (fun K54 hK54 => ?_)
    refine wp_block ?_
    refine wp_seq_k (fun K55 hK55 => ?_)
    refine wp_region_lit ?_
    have hf56 := r36
    refine wpl_op (i := 0) rfl (o_new (fun g => (.slice (some ⟨g, 0, none⟩) 0 0)) [] 37 F52 rfl rfl rfl rfl (rn_buildSlice (parts0 ) (by kernel_rfl)) ?_)
    intro g57 w58 a63 F64 z61 z62 b59 hx60; clear F52
    have nb65 := own_new (g := g57) hf56 (by omega)
    refine qv 1 (.slice (some ⟨g57, 0, none⟩) 0 0) F64 rfl (rn_assign (F64.get rfl)) fun _ F67 => ?_; clear F64
    refine wpList_nil ?_
    refine hK55 _ _ ?_
    clear hK55
    have F68 := (((((((F67.nil.c F67 5 rfl).c F67 11 rfl).c F67 4 rfl).c F67 3 rfl).c F67 2 rfl).c F67 1 rfl).c F67 0 rfl)
    clear F67
    refine wp_seq_k (fun K69 hK69 => ?_)
    refine wp_seq_k (fun K70 hK70 => ?_)
    refine wp_region_lit ?_
    refine qv 0 (.int .i64 0) F68 rfl (rn_assign rfl) fun _ F72 => ?_; clear F68
    refine wpList_nil ?_
    refine hK70 _ _ ?_
    clear hK70
    refine wp_block ?_
    have hf73 := own_blk0 (k := 32) b59
    have b74 := (b35.ext hx60)
    have r75 := (own_ext r36 hx60)
    refine wp_loop (fun a' W => ∃ (j : Nat) (Aq : Option Addr) (nq : Nat) (cq : Nat) (x : List (List UInt8)), Sl 38 [(0, (.agg #[(.slice A sd.length c), (.int .i64 (many : Nat)), (.int .i64 used)])), (1, (.pointer (some ⟨g2, 0, none⟩))), (2, (.slice none 0 0)), (3, (.slice Ap np cp)), (4, (.int .i64 (k : Nat))), (11, (.bool (decide (((k : Nat) : Int) < ((many : Nat) : Int))))), (5, (.slice Aq nq cq)), (6, (.int .i64 (j : Nat)))] a' ∧ (j ≤ 64 ∧ nq = 2 * j) ∧ x = pairsL (hashD sd k) j ∧ Ext w W ∧ Blk W g2 24 [(.slice A sd.length c), (.int .i64 (many : Nat)), (.int .i64 used)] ∧ W.ownsRow g13 37 32 (.slice Ap np cp) np (digVals l) ∧ W.ownsRow g57 37 32 (.slice Aq nq cq) nq (digVals x) ∧ Apart (.slice Ap np cp) (.slice Aq nq cq) ∧ g13 ≤ W.heap.size ∧ g57 ≤ W.heap.size ∧ w58.heap.size ≤ W.heap.size) (fun a' _ => 64 - (intOf (a'.eval (.tmp 6))).toNat) ⟨0, (some ⟨g57, 0, none⟩), 0, 0, [], ((((((((F72.nil.cons (q_get F72 (t := 6) rfl (by first | rfl | (congr 1; omega) | (congr 1; done)))).cons (q_get F72 (t := 5) rfl (by first | rfl | (congr 1; omega) | (congr 1; done)))).cons (q_get F72 (t := 11) rfl rfl)).cons (q_get F72 (t := 4) rfl rfl)).cons (q_get F72 (t := 3) rfl rfl)).cons (q_get F72 (t := 2) rfl rfl)).cons (q_get F72 (t := 1) rfl rfl)).cons (q_get F72 (t := 0) rfl rfl)), ⟨by omega, by omega⟩, rfl, (((Ext.refl w).trans hx32).trans hx60), b74, r75, hf73, (Apart.of_ne (n := 0) (c := 0) nb65), (by omega), (by omega), (Nat.le_refl _)⟩ ?_
    clear F72
    rintro a76 w77 ⟨j, Aq, nq, cq, x, F78, hp80, hp81, hx79, b82, r83, r84, hf85, hf86, hf87, hf88⟩
    have hL89 := F78
    have z90 := hx79.size
    have z91 := b82.lt
    have z92 := own_form0 r83
    have z93 := own_form0 r84
    have hx32 : All32 x := by rw [hp81]; exact pairsL_32 (fun _ _ => hashD_len _ _ _ _) _
    refine wp_seq_k (fun K94 hK94 => ?_)
    refine wp_seq_k (fun K95 hK95 => ?_)
    refine wp_region_lit ?_
    refine qv 0 (.int .i64 (j : Nat)) F78 rfl (rn_move (F78.get rfl)) fun _ F97 => ?_; clear F78
    refine qv 1 (.bool (decide (((j : Nat) : Int) < (64 : Int)))) F97 rfl (rn_lss (F97.get rfl) rfl) fun _ F99 => ?_; clear F97
    refine wpList_nil ?_
    refine hK95 _ _ ?_
    clear hK95
    by_cases hc100 : ((j : Nat) : Int) < (64 : Int)
    · skip
      refine wp_cond_true (c_true F99 rfl (decide_eq_true hc100)) ?_
      refine wp_skip ?_
      refine hK94 _ _ ?_
      clear hK94
      refine wp_seq_k (fun K101 hK101 => ?_)
      refine wp_block ?_
      have hx103 : ∃ W, w77.drew = W ∧ Ext w77 W := ⟨_, rfl, (Ext.refl _).drew⟩
      obtain ⟨w102, e104, hx103⟩ := hx103
      have z105 := hx103.size
      refine any_start (fun W => True ∧ Blk W g2 24 [(.slice A sd.length c), (.int .i64 (many : Nat)), (.int .i64 used)]) (fun i => false) 14 #[false, false, false, false, false, false, false, false, false, false, false, false, false, false] rfl rfl rfl ?_
      rw [e104]; clear e104
      refine qp 0 (.slice Aq nq cq) F99 rfl rfl (fun W => (rn_move (F99.get rfl))) fun _ F107 => ?_; clear F99
      have b109 := (b82.ext hx103)
      have hS108 : True ∧ Blk w102 g2 24 [(.slice A sd.length c), (.int .i64 (many : Nat)), (.int .i64 used)] := ⟨trivial, b109⟩
      refine qs 1 (.agg #[(.slice A sd.length c), (.int .i64 (many : Nat)), (.int .i64 used)]) F107 rfl rfl hS108 (fun W hW => (rn_loadBlk (F107.get rfl) hW.2 Tryd.underlying24 rfl inf24)) fun _ F111 => ?_; clear F107
      refine qp 2 (.int .i64 (k : Nat)) F111 rfl rfl (fun W => (rn_move (F111.get rfl))) fun _ F113 => ?_; clear F111
      refine qp 3 (.int .i64 (j : Nat)) F113 rfl rfl (fun W => (rn_move (F113.get rfl))) fun _ F115 => ?_; clear F113
      refine qs 6 (.agg #[(.slice A sd.length c), (.int .i64 (many : Nat)), (.int .i64 used)]) F115 rfl rfl hS108 (fun W hW => (rn_loadBlk (F115.get rfl) hW.2 Tryd.underlying24 rfl inf24)) fun _ F117 => ?_; clear F115
      refine qp 7 (.int .i64 (k : Nat)) F117 rfl rfl (fun W => (rn_move (F117.get rfl))) fun _ F119 => ?_; clear F117
      refine qp 8 (.int .i64 (j : Nat)) F119 rfl rfl (fun W => (rn_move (F119.get rfl))) fun _ F121 => ?_; clear F119
      refine any_one (i := 4) (by decide +kernel) rfl ?_
      have d122 := ((hc.ext hx79).ext hx103)
      refine o_call F121 rfl rfl rfl rfl (rn_call (args4 (F121.get rfl) (F121.get rfl) (F121.get rfl) rfl) rfl (by kernel_rfl)) (rsecret_at (v := (.slice A sd.length c)) (m := sd.length) sd (many : Nat) used k j false _ d122 rfl (by omega) (by omega) (by omega)) ?_
      rintro _ w123 ⟨rfl, hx124⟩
      refine ⟨_, rfl, ?_⟩; intro a125 F126; clear F121; have z127 := hx124.size
      have b128 := (b109.ext hx124)
      refine ⟨fun _ _ => ⟨trivial, b128⟩, ?_⟩
      refine any_one (i := 5) (by decide +kernel) rfl ?_
      refine o_call F126 rfl rfl rfl rfl (rn_call (args1 (F126.get rfl)) rfl (by kernel_rfl)) (rhash_any (secretD sd k j false) _ (secretD_len _ _ _ _)) ?_
      rintro _ w129 ⟨rfl, hx130⟩
      refine ⟨_, rfl, ?_⟩; intro a131 F132; clear F126; have z133 := hx130.size
      have b134 := (b128.ext hx130)
      refine ⟨fun _ _ => ⟨trivial, b134⟩, ?_⟩
      refine any_one (i := 9) (by decide +kernel) rfl ?_
      have d135 := ((((hc.ext hx79).ext hx103).ext hx124).ext hx130)
      refine o_call F132 rfl rfl rfl rfl (rn_call (args4 (F132.get rfl) (F132.get rfl) (F132.get rfl) rfl) rfl (by kernel_rfl)) (rsecret_at (v := (.slice A sd.length c)) (m := sd.length) sd (many : Nat) used k j true _ d135 rfl (by omega) (by omega) (by omega)) ?_
      rintro _ w136 ⟨rfl, hx137⟩
      refine ⟨_, rfl, ?_⟩; intro a138 F139; clear F132; have z140 := hx137.size
      have b141 := (b134.ext hx137)
      refine ⟨fun _ _ => ⟨trivial, b141⟩, ?_⟩
      refine any_one (i := 10) (by decide +kernel) rfl ?_
      refine o_call F139 rfl rfl rfl rfl (rn_call (args1 (F139.get rfl)) rfl (by kernel_rfl)) (rhash_any (secretD sd k j true) _ (secretD_len _ _ _ _)) ?_
      rintro _ w142 ⟨rfl, hx143⟩
      refine ⟨_, rfl, ?_⟩; intro a144 F145; clear F139; have z146 := hx143.size
      have b147 := (b141.ext hx143)
      refine ⟨fun _ _ => ⟨trivial, b147⟩, ?_⟩
      refine any_one (i := 11) (by decide +kernel) rfl ?_
      have r148 := (own_ext (own_ext (own_ext (own_ext (own_ext r83 hx103) hx124) hx130) hx137) hx143)
      have hf149 := r148
      have r150 := (own_ext (own_ext (own_ext (own_ext (own_ext r84 hx103) hx124) hx130) hx137) hx143)
      have hf151 := r150
      refine o_new (fun g => (.slice (some ⟨g, 0, none⟩) 2 2)) (byteVals ((openD (secretD sd k j false)) ++ (openD (secretD sd k j true)))) 37 F145 rfl rfl rfl rfl (rn_buildSlice (parts2 (F145.get rfl) (F145.get rfl)) (build_wholeE (vs := [(.agg (byteVals (openD (secretD sd k j false))).toArray), (.agg (byteVals (openD (secretD sd k j true))).toArray)]) El28 rfl rfl (by simp [Value.cells, byteVals_len (openD_len _), byteVals_len (openD_len _)]) (by decide) (by decide) (by simp [Value.cells, byteVals]))) ?_
      intro g152 w153 a158 F159 z156 z157 b154 hx155; clear F145
      have nb160 := own_new (g := g152) hf149 (by omega)
      have nb161 := own_new (g := g152) hf151 (by omega)
      have b162 := (b147.ext hx155)
      refine ⟨fun _ _ => ⟨trivial, b162⟩, ?_⟩
      refine any_one (i := 12) (by decide +kernel) rfl ?_
      have r163 := (own_ext r150 hx155)
      have hf172 := r163
      have nb173 : some g152 ≠ (Value.slice Aq nq cq).ownBlock := nb161
      have z174 := b154.lt
      have r175 := (own_ext r148 hx155)
      have hf176 := r175
      have ap177 : Apart (.slice Ap np cp) (.slice Aq nq cq) := hf85
      refine o_appB (zs := digVals (x ++ ([openD (secretD sd k j false), openD (secretD sd k j true)]))) El28 F159 rfl rfl rfl rfl rfl (F159.get rfl) (F159.get rfl) hf172 (Fl.cel (Fl.digblk (S := fun b => b = g152) b154 (All32.cons (openD_len _) (All32.sing (openD_len _))) (by simp [digVals, byteVals]))).2.2 (by omega) (by omega) (by omega) (digVals_app _ _) ?_
      intro A164 c165 w166 a178 F179 r167 hg168 z169 z170 hnb171; clear F159; have z180 := hg168.size
      have nb181 := hnb171 g152 (by omega) nb173
      have ap182 := Apart.app hf176 ap177 hnb171
      have b183 := (grown_blk hf172 hg168 b162 (by decide))
      refine ⟨fun _ _ => ⟨trivial, b183⟩, ?_⟩
      refine qp 13 (.slice A164 (nq + 2) c165) F179 rfl rfl (fun W => (rn_assign (F179.get rfl))) fun _ F185 => ?_; clear F179
      refine any_nil (by decide +kernel) ?_
      refine hK101 _ _ ?_
      clear hK101
      have F186 := (((((((((F185.nil.c F185 16 rfl).c F185 6 rfl).c F185 5 rfl).c F185 11 rfl).c F185 4 rfl).c F185 3 rfl).c F185 2 rfl).c F185 1 rfl).c F185 0 rfl)
      clear F185
      refine wp_region_lit ?_
      refine qv 0 (.int .i64 (j : Nat)) F186 rfl (rn_move (F186.get rfl)) fun _ F188 => ?_; clear F186
      refine qv 1 (.int .i64 (j + 1 : Nat)) F188 rfl (rn_addN (a := j) (b := 1) (F188.get rfl) rfl (by omega)) fun _ F190 => ?_; clear F188
      refine qv 2 (.int .i64 (j + 1 : Nat)) F190 rfl (rn_assign (F190.get rfl)) fun _ F192 => ?_; clear F190
      refine wpList_nil ?_
      have r193 := (own_grownR r175 hg168 ap177)
      refine ⟨⟨(j + 1), A164, nq + 2, c165, x ++ ([openD (secretD sd k j false), openD (secretD sd k j true)]), ((((((((F192.nil.cons (q_get F192 (t := 6) rfl (by first | rfl | (congr 1; omega) | (congr 1; done)))).cons (q_get F192 (t := 5) rfl (by first | rfl | (congr 1; omega) | (congr 1; done)))).cons (q_get F192 (t := 11) rfl rfl)).cons (q_get F192 (t := 4) rfl rfl)).cons (q_get F192 (t := 3) rfl rfl)).cons (q_get F192 (t := 2) rfl rfl)).cons (q_get F192 (t := 1) rfl rfl)).cons (q_get F192 (t := 0) rfl rfl)), ⟨by omega, by omega⟩, (by rw [hp81]; exact pairsL_step (hashD sd k) j), (ext_row ((((((((Ext.refl w).trans hx79).trans hx103).trans hx124).trans hx130).trans hx137).trans hx143).trans hx155) hg168 hf172 (by omega)), b183, r193, r167, ap182, (by omega), (by omega), (by omega)⟩, ?_⟩
      rw [F192.get (t := 6) rfl, hL89.get (t := 6) rfl]; simp [intOf] <;> omega
    · skip
      refine wp_cond_false (c_false F99 rfl (decide_eq_false hc100)) ?_
      refine wp_exit ?_
      refine exit_then ?_
      refine exit_then ?_
      refine exit_here ?_
      refine hK69 _ _ ?_
      clear hK69
      refine wp_region_lit ?_
      refine qv 0 (.slice Ap np cp) F99 rfl (rn_move (F99.get rfl)) fun _ F195 => ?_; clear F99
      refine qv 1 (.slice Aq nq cq) F195 rfl (rn_move (F195.get rfl)) fun _ F197 => ?_; clear F195
      refine wpl_op (i := 2) rfl (o_call F197 rfl rfl rfl rfl (rn_call (args1 (F197.get rfl)) rfl (by kernel_rfl)) (rone_at (v := (.slice Aq nq cq)) (m := nq) x _ hx32 (Fl.own (S := fun b => g57 ≤ b) r84 (fun b hb => hb) (digVals_one _)) (by omega)) ?_)
      rintro _ w198 ⟨rfl, hx199⟩
      refine ⟨_, rfl, ?_⟩; intro a200 F201; clear F197; have z202 := hx199.size
      have r203 := (own_ext r83 hx199)
      have hf204 := r203
      have r205 := (own_ext r84 hx199)
      have hf206 := r205
      refine wpl_op (i := 3) rfl (o_new (fun g => (.slice (some ⟨g, 0, none⟩) 1 1)) (byteVals ((tagged [111, 110, 101] x.flatten))) 37 F201 rfl rfl rfl rfl (rn_buildSlice (parts1 (F201.get rfl)) (build_wholeE (vs := [(.agg (byteVals (tagged [111, 110, 101] x.flatten)).toArray)]) El28 rfl rfl (fun v hv => by rw [List.mem_singleton.1 hv]; exact (byteVals_len (tagged_len _ _))) (by decide) (by decide) (by simp [Value.cells, byteVals]))) ?_)
      intro g207 w208 a213 F214 z211 z212 b209 hx210; clear F201
      have nb215 := own_new (g := g207) hf204 (by omega)
      have nb216 := own_new (g := g207) hf206 (by omega)
      have r217 := (own_ext r203 hx210)
      have hf226 := r217
      have nb227 : some g207 ≠ (Value.slice Ap np cp).ownBlock := nb215
      have z228 := b209.lt
      have r229 := (own_ext r205 hx210)
      have hf230 := r229
      have ap231 : Apart (.slice Aq nq cq) (.slice Ap np cp) := (Apart.symm hf85)
      refine wpl_op (i := 4) rfl (o_appB (zs := digVals (l ++ ([tagged [111, 110, 101] x.flatten]))) El28 F214 rfl rfl rfl rfl rfl (F214.get rfl) (F214.get rfl) hf226 (Fl.cel (Fl.digblk (S := fun b => b = g207) b209 (All32.sing (tagged_len _ _)) (by simp [digVals, byteVals]))).2.2 (by omega) (by omega) (by omega) (digVals_app _ _) ?_)
      intro A218 c219 w220 a232 F233 r221 hg222 z223 z224 hnb225; clear F214; have z234 := hg222.size
      have nb235 := hnb225 g207 (by omega) nb227
      have ap236 := Apart.app hf230 ap231 hnb225
      refine qv 5 (.slice A218 (np + 1) c219) F233 rfl (rn_assign (F233.get rfl)) fun _ F238 => ?_; clear F233
      refine wpList_nil ?_
      refine hK54 _ _ ?_
      clear hK54
      have F239 := (((((((((F238.nil.c F238 16 rfl).c F238 6 rfl).c F238 5 rfl).c F238 11 rfl).c F238 4 rfl).c F238 3 rfl).c F238 2 rfl).c F238 1 rfl).c F238 0 rfl)
      clear F238
      refine wp_region_lit ?_
      refine qv 0 (.int .i64 (k : Nat)) F239 rfl (rn_move (F239.get rfl)) fun _ F241 => ?_; clear F239
      refine qv 1 (.int .i64 (k + 1 : Nat)) F241 rfl (rn_addN (a := k) (b := 1) (F241.get rfl) rfl (by omega)) fun _ F243 => ?_; clear F241
      refine qv 2 (.int .i64 (k + 1 : Nat)) F243 rfl (rn_assign (F243.get rfl)) fun _ F245 => ?_; clear F243
      refine wpList_nil ?_
      have hxx : x = pairsL (hashD sd k) 64 := by have := hp81; rwa [show j = 64 by omega] at this
      have b246 := (grown_blk hf226 hg222 ((b82.ext hx199).ext hx210) (by decide))
      refine ⟨⟨(k + 1), A218, np + 1, c219, l ++ ([tagged [111, 110, 101] x.flatten]), (((((F245.nil.cons (q_get F245 (t := 4) rfl (by first | rfl | (congr 1; omega) | (congr 1; done)))).cons (q_get F245 (t := 3) rfl (by first | rfl | (congr 1; omega) | (congr 1; done)))).cons (q_get F245 (t := 2) rfl rfl)).cons (q_get F245 (t := 1) rfl rfl)).cons (q_get F245 (t := 0) rfl rfl)), ⟨by omega, by omega⟩, (by rw [hp34, hxx, pairsL_flat]; exact pubsL_step sd k), (ext_row ((((Ext.refl w).trans hx79).trans hx199).trans hx210) hg222 hf226 (by omega)), b246, r221, (by omega), (by omega)⟩, ?_⟩
      rw [F245.get (t := 4) rfl, hL39.get (t := 4) rfl]; simp [intOf] <;> omega
  · skip
    refine wp_cond_false (c_false F52 rfl (decide_eq_false hc53)) ?_
    refine wp_exit ?_
    refine exit_then ?_
    refine exit_then ?_
    refine exit_here ?_
    refine hK23 _ _ ?_
    clear hK23
    refine wp_seq_k (fun K247 hK247 => ?_)
    refine wp_region_lit ?_
    refine qv 0 (.slice Ap np cp) F52 rfl (rn_move (F52.get rfl)) fun _ F249 => ?_; clear F52
    refine qv 1 (.slice Ap np cp) F249 rfl (rn_assign (F249.get rfl)) fun _ F251 => ?_; clear F249
    refine wpList_nil ?_
    refine hK247 _ _ ?_
    clear hK247
    have F252 := ((((((F251.nil.c F251 11 rfl).c F251 4 rfl).c F251 3 rfl).c F251 2 rfl).c F251 1 rfl).c F251 0 rfl)
    clear F251
    refine wp_ret ?_
    refine ret1 F252 rfl rfl ?_
    have hk : k = many := by omega
    have hrow := Fl.own (S := fun b => w.heap.size ≤ b) r36 (fun b hb => by omega) (digVals_one _)
    have hnp : np = many := by omega
    have hx := ((Ext.refl w).trans hx32)
    have hl := hp34
    subst hk
    subst hl
    subst hnp
    exact ⟨Ap, cp, rfl, hrow, hx⟩

theorem keys_at {v : Value} {m : Nat} (sd : List UInt8) (many : Nat) (used : Int) (w : World) (hf : Fl S w 1 v m (byteVals sd)) (hsd : m ≤ 64) (hm : many ≤ 4096) :
    Calls Tryd.prog 37 #[.agg #[v, .int .i64 (many : Nat), .int .i64 used]] w (fun e w' => ∃ A c, e = .returned (.slice A many c) ∧ Fl (fun b => w.heap.size ≤ b) w' 32 (.slice A many c) many (digVals (pubsL sd many)) ∧ Ext w w') := by
  have hm := hf.blen
  subst hm
  obtain ⟨A, c, rfl, _⟩ := hf.form
  exact keys_any A c sd many used w hf hsd hm

end Go.Proofs.YtmjgjopbeokajaaDoor
