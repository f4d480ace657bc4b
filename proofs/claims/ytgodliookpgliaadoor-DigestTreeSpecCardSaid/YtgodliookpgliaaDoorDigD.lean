/- Contract of absorb. -/
import Derived.Test.YtgodliookpgliaaDoorProg
import Derived.Test.YtgodliookpgliaaDoorDigP
import Derived.KernelRfl
namespace Go.Proofs.YtgodliookpgliaaDoor
open Go.RowKit

variable {S S' : Nat → Prop}

theorem El64 : El Tryd.prog 64 47 (.int .u32 0) 1 4 := ⟨Tryd.underlying64, by kernel_rfl, rfl, by decide⟩

set_option maxRecDepth 100000 in
set_option maxHeartbeats 1000000 in
theorem absorb_any (g : Nat) (h : List UInt32) (A : Option Addr) (c : Nat) (b : List UInt8) (n : UInt64) (last : Bool) (w : World) (hb : Blk w g 48 (u32Vals h)) (hh : h.length = 8) (hf : Fl S w 1 (.slice A b.length c) b.length (byteVals b)) (h64 : b.length ≤ 64) (hG : Glob w) :
    Calls Tryd.prog 24 #[.pointer (some ⟨g, 0, none⟩), .slice A b.length c, .int .u64 (n.toNat : Nat), .bool last] w (fun e w' => e = .returned (.tuple #[]) ∧ Blk w' g 48 (u32Vals (absorb h b n last)) ∧ w.grownBy w' (some g)) := by
  refine calls_enter (l := [(.pointer (some ⟨g, 0, none⟩)), (.slice A b.length c), (.int .u64 (n.toNat : Nat)), (.bool last)]) Tryd.func24 rfl rfl rfl (fun a hF => ?_)
  have hlt := hb.lt
  refine wp_seq_k (fun K1 hK1 => ?_)
  refine wp_region_lit ?_
  refine wpl_op (i := 0) rfl (o_new (fun g => (.pointer (some ⟨g, 0, none⟩))) (u32Vals (List.replicate 16 0)) 63 hF rfl rfl rfl rfl (by kernel_rfl) ?_)
  intro g2 w3 a8 hF9 z6 z7 b4 hx5; clear hF
  refine wpl_op (i := 1) rfl (o_new (fun g => (.pointer (some ⟨g, 0, none⟩))) (u32Vals (List.replicate 16 0)) 63 hF9 rfl rfl rfl rfl (by kernel_rfl) ?_)
  intro g10 w11 a16 hF17 z14 z15 b12 hx13; clear hF9
  refine wpList_nil ?_
  refine hK1 _ _ ?_
  clear hK1
  refine wp_seq_k (fun K18 hK18 => ?_)
  refine wp_seq_k (fun K19 hK19 => ?_)
  refine wp_region_lit ?_
  refine wpl_op (i := 0) rfl (o_val (v := (.slice A b.length c)) hF17 rfl rfl rfl rfl (rn_move (hF17.get rfl)) ?_)
  intro a20 hF21; clear hF17
  refine wpl_op (i := 1) rfl (o_val (v := (.int .i64 (b.length : Nat))) hF21 rfl rfl rfl rfl (rn_len_slice Tryd.underlying22 (hF21.get rfl)) ?_)
  intro a22 hF23; clear hF21
  refine wpl_op (i := 2) rfl (o_val (v := (.int .i64 0)) hF23 rfl rfl rfl rfl (rn_move rfl) ?_)
  intro a24 hF25; clear hF23
  refine wpList_nil ?_
  refine hK19 _ _ ?_
  clear hK19
  refine wp_block ?_
  have b26 : Blk w11 g 48 (u32Vals h) := ((hb.ext hx5).ext hx13)
  have b27 : Blk w11 g2 63 (u32Vals (List.replicate 16 0)) := (b4.ext hx13)
  refine wp_loop (fun a' W => ∃ (k : Nat) (m : List UInt32), Sl 149 [(0, (.pointer (some ⟨g, 0, none⟩))), (1, (.slice A b.length c)), (2, (.int .u64 (n.toNat : Nat))), (3, (.bool last)), (8, (.pointer (some ⟨g2, 0, none⟩))), (9, (.pointer (some ⟨g10, 0, none⟩))), (18, (.slice A b.length c)), (19, (.int .i64 (b.length : Nat))), (20, (.int .i64 (k : Nat)))] a' ∧ k ≤ b.length ∧ m = wordsTo b k ∧ Ext w W ∧ Blk W g 48 (u32Vals h) ∧ Blk W g2 63 (u32Vals m) ∧ Blk W g10 63 (u32Vals (List.replicate 16 0))) (fun a' _ => b.length - (intOf (a'.eval (.tmp 20))).toNat) ⟨0, (List.replicate 16 0), (((((((((hF25.nil.cons (q_get hF25 (t := 20) rfl (by first | rfl | (congr 1; omega) | (congr 1; done)))).cons (q_get hF25 (t := 19) rfl rfl)).cons (q_get hF25 (t := 18) rfl rfl)).cons (q_get hF25 (t := 9) rfl rfl)).cons (q_get hF25 (t := 8) rfl rfl)).cons (q_get hF25 (t := 3) rfl rfl)).cons (q_get hF25 (t := 2) rfl rfl)).cons (q_get hF25 (t := 1) rfl rfl)).cons (q_get hF25 (t := 0) rfl rfl)), (by omega), rfl, (((Ext.refl w).trans hx5).trans hx13), b26, b27, b12⟩ ?_
  clear hF25
  rintro a28 w29 ⟨k, m, hF30, hp32, hp33, hx31, b34, b35, b36⟩
  have hL37 := hF30
  have z38 := hx31.size
  have z39 := b34.lt
  have z40 := b35.lt
  have z41 := b36.lt
  have hm : m.length = 16 := by rw [hp33]; exact wordsTo_len _ _
  refine wp_seq_k (fun K42 hK42 => ?_)
  refine wp_region_lit ?_
  refine wpl_op (i := 0) rfl (o_val (v := (.bool (decide (((k : Nat) : Int) < ((b.length : Nat) : Int))))) hF30 rfl rfl rfl rfl (rn_lss (hF30.get rfl) (hF30.get rfl)) ?_)
  intro a43 hF44; clear hF30
  refine wpList_nil ?_
  refine hK42 _ _ ?_
  clear hK42
  refine wp_seq_k (fun K45 hK45 => ?_)
  by_cases hc46 : ((k : Nat) : Int) < ((b.length : Nat) : Int)
  · skip
    refine wp_cond_true (c_true hF44 rfl (decide_eq_true hc46)) ?_
    refine wp_skip ?_
    refine hK45 _ _ ?_
    clear hK45
    refine wp_seq_k (fun K47 hK47 => ?_)
    refine wp_block ?_
    refine wp_seq_k (fun K48 hK48 => ?_)
    refine wp_region_lit ?_
    refine wpl_op (i := 0) rfl (o_val (v := (.int .i64 (k : Nat))) hF44 rfl rfl rfl rfl (rn_move (hF44.get rfl)) ?_)
    intro a49 hF50; clear hF44
    have d54 := (hf.ext hx31)
    obtain ⟨b51, o52, hA53, -⟩ := Fl.at d54 (by omega)
    refine wpl_op (i := 1) rfl (o_val (v := (.pointer (some ⟨b51, o52 + k, none⟩))) hF50 rfl rfl rfl rfl (rn_index1 Tryd.underlying22 (by kernel_rfl : (Tryd.prog.info? 5).map (·.size) = some 1) ((hF50.get rfl).trans (by rw [hA53])) (hF50.get rfl) (by omega : (0 : Int) ≤ (k : Nat)) (by omega : ((k : Nat) : Int) < ((b.length : Nat) : Int))) ?_)
    intro a55 hF56; clear hF50
    refine wpl_op (i := 2) rfl (o_val (v := (.int .u8 ((b.getD k 0).toNat : Nat))) hF56 rfl rfl rfl rfl (rn_load (isAgg_no Tryd.underlying5 rfl) (hF56.get rfl) (Fl.cellAt d54 hA53 (byteVals_at (i := k) (by omega)))) ?_)
    intro a57 hF58; clear hF56
    refine wpl_op (i := 3) rfl (o_val (v := (.int .i64 (k : Nat))) hF58 rfl rfl rfl rfl (rn_assign (hF58.get rfl)) ?_)
    intro a59 hF60; clear hF58
    refine wpl_op (i := 4) rfl (o_val (v := (.int .u8 ((b.getD k 0).toNat : Nat))) hF60 rfl rfl rfl rfl (rn_assign (hF60.get rfl)) ?_)
    intro a61 hF62; clear hF60
    refine wpList_nil ?_
    refine hK48 _ _ ?_
    clear hK48
    have hx64 : ∃ W, w29.drew = W ∧ Ext w29 W := ⟨_, rfl, (Ext.refl _).drew⟩
    obtain ⟨w63, e65, hx64⟩ := hx64
    have z66 := hx64.size
    refine any_start (fun W => Ext w63 W ∧ Blk W g2 63 (u32Vals m)) (fun i => i == 12) 13 #[false, false, false, false, false, false, false, false, false, false, false, false, false] rfl rfl rfl ?_
    rw [e65]; clear e65
    refine any_pure (i := 0) (v := (.int .i64 (k : Nat))) hF62 (by decide +kernel) (by decide +kernel) rfl rfl rfl rfl (fun _ _ _ _ h => h) rfl (fun W => (rn_move (hF62.get rfl))) ?_
    intro a67 hF68; clear hF62
    refine any_pure (i := 1) (v := (.int .i64 (k / 4 : Nat))) hF68 (by decide +kernel) (by decide +kernel) rfl rfl rfl rfl (fun _ _ _ _ h => h) rfl (fun W => (rn_quoN (a := k) (b := 4) (hF68.get rfl) rfl (by omega) (by omega))) ?_
    intro a69 hF70; clear hF68
    refine any_pure (i := 2) (v := (.pointer (some ⟨g2, 0 + (k / 4), none⟩))) hF70 (by decide +kernel) (by decide +kernel) rfl rfl rfl rfl (fun _ _ _ _ h => h) rfl (fun W => (rn_indexArr Tryd.underlying63 (by kernel_rfl : (Tryd.prog.info? 47).map (·.size) = some 1) (hF70.get rfl) (hF70.get rfl) (by omega : (0 : Int) ≤ (k / 4 : Nat)) (by omega : ((k / 4 : Nat) : Int) < ((16 : Nat) : Int)))) ?_
    intro a71 hF72; clear hF70
    have b74 : Blk w63 g2 63 (u32Vals m) := (b35.ext hx64)
    have hS73 : Ext w63 w63 ∧ Blk w63 g2 63 (u32Vals m) := ⟨(Ext.refl w63), b74⟩
    refine any_val (i := 3) (v := (.int .u32 ((m.getD (k / 4) 0).toNat : Nat))) hF72 (by decide +kernel) (by decide +kernel) rfl rfl rfl rfl (fun _ _ _ _ h => h) rfl hS73 (fun W hW => (rn_load (isAgg_no Tryd.underlying47 rfl) (hF72.get rfl) (blk_word hW.2 (by omega) (by have := (show List.length m = _ from hm); omega)))) ?_
    intro a75 hF76; clear hF72
    refine any_pure (i := 4) (v := (.int .u8 ((b.getD k 0).toNat : Nat))) hF76 (by decide +kernel) (by decide +kernel) rfl rfl rfl rfl (fun _ _ _ _ h => h) rfl (fun W => (rn_move (hF76.get rfl))) ?_
    intro a77 hF78; clear hF76
    refine any_val (i := 5) (v := (.int .u32 (((b.getD k 0).toUInt32).toNat : Nat))) hF78 (by decide +kernel) (by decide +kernel) rfl rfl rfl rfl (fun _ _ _ _ h => h) rfl hS73 (fun W hW => (rn_convW Tryd.underlying5 Tryd.underlying47 (hF78.get rfl) (cv8_32 (b.getD k 0)))) ?_
    intro a79 hF80; clear hF78
    refine any_pure (i := 6) (v := (.int .i64 (k : Nat))) hF80 (by decide +kernel) (by decide +kernel) rfl rfl rfl rfl (fun _ _ _ _ h => h) rfl (fun W => (rn_move (hF80.get rfl))) ?_
    intro a81 hF82; clear hF80
    refine any_pure (i := 7) (v := (.int .i64 (k % 4 : Nat))) hF82 (by decide +kernel) (by decide +kernel) rfl rfl rfl rfl (fun _ _ _ _ h => h) rfl (fun W => (rn_remN (a := k) (b := 4) (hF82.get rfl) rfl (by omega))) ?_
    intro a83 hF84; clear hF82
    refine any_pure (i := 8) (v := (.int .i64 (8 * (k % 4) : Nat))) hF84 (by decide +kernel) (by decide +kernel) rfl rfl rfl rfl (fun _ _ _ _ h => h) rfl (fun W => (rn_mulN (a := 8) (b := k % 4) rfl (hF84.get rfl) (by omega))) ?_
    intro a85 hF86; clear hF84
    refine any_pure (i := 9) (v := (.int .u32 ((((b.getD k 0).toUInt32) <<< UInt32.ofNat (8 * (k % 4))).toNat : Nat))) hF86 (by decide +kernel) (by decide +kernel) rfl rfl rfl rfl (fun _ _ _ _ h => h) rfl (fun W => (rn_shl32 (a := ((b.getD k 0).toUInt32)) (n := (8 * (k % 4))) (hF86.get rfl) (hF86.get rfl) (by omega))) ?_
    intro a87 hF88; clear hF86
    refine any_pure (i := 10) (v := (.int .u32 (((m.getD (k / 4) 0) ||| (((b.getD k 0).toUInt32) <<< UInt32.ofNat (8 * (k % 4)))).toNat : Nat))) hF88 (by decide +kernel) (by decide +kernel) rfl rfl rfl rfl (fun _ _ _ _ h => h) rfl (fun W => (rn_or32 (a := (m.getD (k / 4) 0)) (b := (((b.getD k 0).toUInt32) <<< UInt32.ofNat (8 * (k % 4)))) (hF88.get rfl) (hF88.get rfl))) ?_
    intro a89 hF90; clear hF88
    refine any_pure (i := 11) (v := (.pointer (some ⟨g2, 0 + (k / 4), none⟩))) hF90 (by decide +kernel) (by decide +kernel) rfl rfl rfl rfl (fun _ _ _ _ h => h) rfl (fun W => (rn_indexArr Tryd.underlying63 (by kernel_rfl : (Tryd.prog.info? 47).map (·.size) = some 1) (hF90.get rfl) (hF90.get rfl) (by omega : (0 : Int) ≤ (k / 4 : Nat)) (by omega : ((k / 4 : Nat) : Int) < ((16 : Nat) : Int)))) ?_
    intro a91 hF92; clear hF90
    refine any_one (i := 12) (by decide +kernel) rfl ?_
    refine o_store1 (new := (u32Vals (m.set (k / 4) ((m.getD (k / 4) 0) ||| (((b.getD k 0).toUInt32) <<< UInt32.ofNat (8 * (k % 4))))))) hF92 rfl rfl rfl rfl (hF92.get rfl) (hF92.get rfl) b74 (by kernel_rfl : (Tryd.prog.info? 47).map (·.size) = some 1) (by rw [u32Vals_len hm]; omega) rfl (u32Vals_set (by omega)) ?_
    intro w93 b94 hg95; have z96 := hg95.size
    refine ⟨fun h => absurd h (by decide), ?_⟩
    refine any_nil (by decide +kernel) ?_
    refine hK47 _ _ ?_
    clear hK47
    have hF97 := ((((((((((((hF92.nil.cons (hF92.get (t := 11) (v := (.int .u8 ((b.getD k 0).toNat : Nat))) rfl)).cons (hF92.get (t := 10) (v := (.int .i64 (k : Nat))) rfl)).cons (hF92.get (t := 21) (v := (.bool (decide (((k : Nat) : Int) < ((b.length : Nat) : Int))))) rfl)).cons (hF92.get (t := 20) (v := (.int .i64 (k : Nat))) rfl)).cons (hF92.get (t := 19) (v := (.int .i64 (b.length : Nat))) rfl)).cons (hF92.get (t := 18) (v := (.slice A b.length c)) rfl)).cons (hF92.get (t := 9) (v := (.pointer (some ⟨g10, 0, none⟩))) rfl)).cons (hF92.get (t := 8) (v := (.pointer (some ⟨g2, 0, none⟩))) rfl)).cons (hF92.get (t := 3) (v := (.bool last)) rfl)).cons (hF92.get (t := 2) (v := (.int .u64 (n.toNat : Nat))) rfl)).cons (hF92.get (t := 1) (v := (.slice A b.length c)) rfl)).cons (hF92.get (t := 0) (v := (.pointer (some ⟨g, 0, none⟩))) rfl))
    clear hF92
    refine wp_region_lit ?_
    refine wpl_op (i := 0) rfl (o_val (v := (.int .i64 (k + 1 : Nat))) hF97 rfl rfl rfl rfl (rn_addN (a := k) (b := 1) (hF97.get rfl) rfl (by omega)) ?_)
    intro a98 hF99; clear hF97
    refine wpl_op (i := 1) rfl (o_val (v := (.int .i64 (k + 1 : Nat))) hF99 rfl rfl rfl rfl (rn_move (hF99.get rfl)) ?_)
    intro a100 hF101; clear hF99
    refine wpList_nil ?_
    obtain ⟨v102, e103⟩ : ∃ z, z = m.set (k / 4) ((m.getD (k / 4) 0) ||| (((b.getD k 0).toUInt32) <<< UInt32.ofNat (8 * (k % 4)))) := ⟨_, rfl⟩
    have hl104 : v102.length = 16 := (congrArg List.length e103).trans (show List.length (m.set (k / 4) ((m.getD (k / 4) 0) ||| (((b.getD k 0).toUInt32) <<< UInt32.ofNat (8 * (k % 4))))) = _ from List.length_set.trans hm)
    rw [← e103] at b94
    have b105 : Blk w93 g 48 (u32Vals h) := ((b34.ext hx64).grownN hg95 (by omega))
    have b106 : Blk w93 g10 63 (u32Vals (List.replicate 16 0)) := ((b36.ext hx64).grownN hg95 (by omega))
    refine ⟨⟨k + 1, v102, (((((((((hF101.nil.cons (q_get hF101 (t := 20) rfl (by first | rfl | (congr 1; omega) | (congr 1; done)))).cons (q_get hF101 (t := 19) rfl rfl)).cons (q_get hF101 (t := 18) rfl rfl)).cons (q_get hF101 (t := 9) rfl rfl)).cons (q_get hF101 (t := 8) rfl rfl)).cons (q_get hF101 (t := 3) rfl rfl)).cons (q_get hF101 (t := 2) rfl rfl)).cons (q_get hF101 (t := 1) rfl rfl)).cons (q_get hF101 (t := 0) rfl rfl)), (by omega), (wordsTo_step hp33 e103), ((((Ext.refl w).trans hx31).trans hx64).grownN hg95 (by omega)), b105, b94, b106⟩, ?_⟩
    rw [hF101.get (t := 20) rfl, hL37.get (t := 20) rfl]; simp [intOf]; omega
  · skip
    refine wp_cond_false (c_false hF44 rfl (decide_eq_false hc46)) ?_
    refine wp_exit ?_
    refine exit_then ?_
    refine exit_then ?_
    refine exit_here ?_
    refine hK18 _ _ ?_
    clear hK18
    refine wp_seq_k (fun K107 hK107 => ?_)
    have hx109 : ∃ W, w29.drew = W ∧ Ext w29 W := ⟨_, rfl, (Ext.refl _).drew⟩
    obtain ⟨w108, e110, hx109⟩ := hx109
    have z111 := hx109.size
    refine any_start (fun W => Ext w108 W ∧ Blk W g10 63 (u32Vals (List.replicate 16 0)) ∧ Blk W g 48 (u32Vals h)) (fun i => i == 4) 5 #[false, false, false, false, false] rfl rfl rfl ?_
    rw [e110]; clear e110
    refine any_pure (i := 0) (v := (.slice (some ⟨g10, 0, none⟩) 8 16)) hF44 (by decide +kernel) (by decide +kernel) rfl rfl rfl rfl (fun _ _ _ _ h => h) rfl (fun W => (rn_arrHi Tryd.underlying63 (by kernel_rfl : (Tryd.prog.info? 47).map (·.size) = some 1) (hF44.get rfl) rfl (by omega : (0 : Int) ≤ 8) (by omega : (8 : Int) ≤ ((16 : Nat) : Int)))) ?_
    intro a112 hF113; clear hF44
    refine any_pure (i := 1) (v := (.pointer (some ⟨g, 0, none⟩))) hF113 (by decide +kernel) (by decide +kernel) rfl rfl rfl rfl (fun _ _ _ _ h => h) rfl (fun W => (rn_move (hF113.get rfl))) ?_
    intro a114 hF115; clear hF113
    refine any_pure (i := 2) (v := (.pointer (some ⟨g, 0, none⟩))) hF115 (by decide +kernel) (by decide +kernel) rfl rfl rfl rfl (fun _ _ _ _ h => h) rfl (fun W => (rn_nil (hF115.get rfl))) ?_
    intro a116 hF117; clear hF115
    refine any_pure (i := 3) (v := (.slice (some ⟨g, 0, none⟩) 8 8)) hF117 (by decide +kernel) (by decide +kernel) rfl rfl rfl rfl (fun _ _ _ _ h => h) rfl (fun W => (rn_arrAll Tryd.underlying48 (by kernel_rfl : (Tryd.prog.info? 47).map (·.size) = some 1) (hF117.get rfl))) ?_
    intro a118 hF119; clear hF117
    refine any_one (i := 4) (by decide +kernel) rfl ?_
    have b120 : Blk w108 g10 63 (u32Vals (List.replicate 16 0)) := (b36.ext hx109)
    have b121 : Blk w108 g 48 (u32Vals h) := (b34.ext hx109)
    refine o_copy (new := u32Vals (h ++ List.replicate 8 0)) (n := 8) (El64) hF119 rfl rfl rfl rfl rfl (hF119.get rfl) (hF119.get rfl) b120 (b121.cel (by rw [u32Vals_len hh]) (u32Vals_one _)) (by rw [u32Vals_len (show List.length (List.replicate 16 0) = _ from List.length_replicate)]; omega) (copy1 hh) (by omega) ?_
    intro w122 a125 hF126 b123 hg124; clear hF119; have z127 := hg124.size
    refine ⟨fun h => absurd h (by decide), ?_⟩
    refine any_nil (by decide +kernel) ?_
    refine hK107 _ _ ?_
    clear hK107
    have hF128 := ((((((((((hF126.nil.cons (hF126.get (t := 21) (v := (.bool (decide (((k : Nat) : Int) < ((b.length : Nat) : Int))))) rfl)).cons (hF126.get (t := 20) (v := (.int .i64 (k : Nat))) rfl)).cons (hF126.get (t := 19) (v := (.int .i64 (b.length : Nat))) rfl)).cons (hF126.get (t := 18) (v := (.slice A b.length c)) rfl)).cons (hF126.get (t := 9) (v := (.pointer (some ⟨g10, 0, none⟩))) rfl)).cons (hF126.get (t := 8) (v := (.pointer (some ⟨g2, 0, none⟩))) rfl)).cons (hF126.get (t := 3) (v := (.bool last)) rfl)).cons (hF126.get (t := 2) (v := (.int .u64 (n.toNat : Nat))) rfl)).cons (hF126.get (t := 1) (v := (.slice A b.length c)) rfl)).cons (hF126.get (t := 0) (v := (.pointer (some ⟨g, 0, none⟩))) rfl))
    clear hF126
    refine wp_seq_k (fun K129 hK129 => ?_)
    have hx131 : ∃ W, w122.drew = W ∧ Ext w122 W := ⟨_, rfl, (Ext.refl _).drew⟩
    obtain ⟨w130, e132, hx131⟩ := hx131
    have z133 := hx131.size
    refine any_start (fun W => Ext w130 W ∧ Blk W g10 63 (u32Vals (h ++ List.replicate 8 0))) (fun i => i == 2) 3 #[false, false, false] rfl rfl rfl ?_
    rw [e132]; clear e132
    refine any_pure (i := 0) (v := (.slice (some ⟨g10, 8, none⟩) 8 8)) hF128 (by decide +kernel) (by decide +kernel) rfl rfl rfl rfl (fun _ _ _ _ h => h) rfl (fun W => (rn_arrLo (l := 8) Tryd.underlying63 (by kernel_rfl : (Tryd.prog.info? 47).map (·.size) = some 1) (hF128.get rfl) rfl (by omega))) ?_
    intro a134 hF135; clear hF128
    refine any_pure (i := 1) (v := (.slice (some ⟨0, 0, none⟩) 8 8)) hF135 (by decide +kernel) (by decide +kernel) rfl rfl rfl rfl (fun _ _ _ _ h => h) rfl (fun W => (rn_arrAll Tryd.underlying48 (by kernel_rfl : (Tryd.prog.info? 47).map (·.size) = some 1) rfl)) ?_
    intro a136 hF137; clear hF135
    refine any_one (i := 2) (by decide +kernel) rfl ?_
    have b138 : Blk w130 g10 63 (u32Vals (h ++ List.replicate 8 0)) := (b123.ext hx131)
    refine o_copy (new := u32Vals (h ++ iv)) (n := 8) (El64) hF137 rfl rfl rfl rfl rfl (hF137.get rfl) (hF137.get rfl) b138 (hG.ext (((((Ext.refl w).trans hx31).trans hx109).grownN hg124 (by omega)).trans hx131)).a (by rw [u32Vals_len (h8_len hh)]; omega) (copy2 hh) (by omega) ?_
    intro w139 a142 hF143 b140 hg141; clear hF137; have z144 := hg141.size
    refine ⟨fun h => absurd h (by decide), ?_⟩
    refine any_nil (by decide +kernel) ?_
    refine hK129 _ _ ?_
    clear hK129
    refine wp_seq_k (fun K145 hK145 => ?_)
    refine wp_region_lit ?_
    refine wpl_op (i := 0) rfl (o_val (v := (.pointer (some ⟨g10, 0 + 12, none⟩))) hF143 rfl rfl rfl rfl (rn_indexArr Tryd.underlying63 (by kernel_rfl : (Tryd.prog.info? 47).map (·.size) = some 1) (hF143.get rfl) rfl (by omega : (0 : Int) ≤ 12) (by omega : (12 : Int) < ((16 : Nat) : Int))) ?_)
    intro a146 hF147; clear hF143
    refine wpl_op (i := 1) rfl (o_val (v := (.int .u32 (((h ++ iv).getD 12 0).toNat : Nat))) hF147 rfl rfl rfl rfl (rn_load (isAgg_no Tryd.underlying47 rfl) (hF147.get rfl) (blk_word b140 (by omega) (by have := (show List.length (h ++ iv) = _ from (hiv_len hh)); omega))) ?_)
    intro a148 hF149; clear hF147
    refine wpl_op (i := 2) rfl (o_val (v := (.int .u64 (n.toNat : Nat))) hF149 rfl rfl rfl rfl (rn_move (hF149.get rfl)) ?_)
    intro a150 hF151; clear hF149
    refine wpl_op (i := 3) rfl (o_val (v := (.int .u32 (n.toUInt32.toNat : Nat))) hF151 rfl rfl rfl rfl (rn_convW Tryd.underlying49 Tryd.underlying47 (hF151.get rfl) (cv64_32 n)) ?_)
    intro a152 hF153; clear hF151
    refine wpl_op (i := 4) rfl (o_val (v := (.int .u32 ((((h ++ iv).getD 12 0) ^^^ n.toUInt32).toNat : Nat))) hF153 rfl rfl rfl rfl (rn_xor32 (a := ((h ++ iv).getD 12 0)) (b := n.toUInt32) (hF153.get rfl) (hF153.get rfl)) ?_)
    intro a154 hF155; clear hF153
    refine wpl_op (i := 5) rfl (o_val (v := (.pointer (some ⟨g10, 0 + 12, none⟩))) hF155 rfl rfl rfl rfl (rn_indexArr Tryd.underlying63 (by kernel_rfl : (Tryd.prog.info? 47).map (·.size) = some 1) (hF155.get rfl) rfl (by omega : (0 : Int) ≤ 12) (by omega : (12 : Int) < ((16 : Nat) : Int))) ?_)
    intro a156 hF157; clear hF155
    refine wpl_op (i := 6) rfl (o_store1 (new := (u32Vals ((h ++ iv).set 12 (((h ++ iv).getD 12 0) ^^^ n.toUInt32)))) hF157 rfl rfl rfl rfl (hF157.get rfl) (hF157.get rfl) b140 (by kernel_rfl : (Tryd.prog.info? 47).map (·.size) = some 1) (by rw [u32Vals_len (hiv_len hh)]; omega) rfl (u32Vals_set (by omega)) ?_)
    intro w158 b159 hg160; have z161 := hg160.size
    refine wpList_nil ?_
    refine hK145 _ _ ?_
    clear hK145
    have hF162 := ((((((((((hF157.nil.cons (hF157.get (t := 21) (v := (.bool (decide (((k : Nat) : Int) < ((b.length : Nat) : Int))))) rfl)).cons (hF157.get (t := 20) (v := (.int .i64 (k : Nat))) rfl)).cons (hF157.get (t := 19) (v := (.int .i64 (b.length : Nat))) rfl)).cons (hF157.get (t := 18) (v := (.slice A b.length c)) rfl)).cons (hF157.get (t := 9) (v := (.pointer (some ⟨g10, 0, none⟩))) rfl)).cons (hF157.get (t := 8) (v := (.pointer (some ⟨g2, 0, none⟩))) rfl)).cons (hF157.get (t := 3) (v := (.bool last)) rfl)).cons (hF157.get (t := 2) (v := (.int .u64 (n.toNat : Nat))) rfl)).cons (hF157.get (t := 1) (v := (.slice A b.length c)) rfl)).cons (hF157.get (t := 0) (v := (.pointer (some ⟨g, 0, none⟩))) rfl))
    clear hF157
    refine wp_seq_k (fun K163 hK163 => ?_)
    refine wp_region_lit ?_
    refine wpl_op (i := 0) rfl (o_val (v := (.pointer (some ⟨g10, 0 + 13, none⟩))) hF162 rfl rfl rfl rfl (rn_indexArr Tryd.underlying63 (by kernel_rfl : (Tryd.prog.info? 47).map (·.size) = some 1) (hF162.get rfl) rfl (by omega : (0 : Int) ≤ 13) (by omega : (13 : Int) < ((16 : Nat) : Int))) ?_)
    intro a164 hF165; clear hF162
    refine wpl_op (i := 1) rfl (o_val (v := (.int .u32 ((((h ++ iv).set 12 (((h ++ iv).getD 12 0) ^^^ n.toUInt32)).getD 13 0).toNat : Nat))) hF165 rfl rfl rfl rfl (rn_load (isAgg_no Tryd.underlying47 rfl) (hF165.get rfl) (blk_word b159 (by omega) (by have := (show List.length ((h ++ iv).set 12 (((h ++ iv).getD 12 0) ^^^ n.toUInt32)) = _ from (show List.length ((h ++ iv).set 12 (((h ++ iv).getD 12 0) ^^^ n.toUInt32)) = _ from List.length_set.trans (hiv_len hh))); omega))) ?_)
    intro a166 hF167; clear hF165
    refine wpl_op (i := 2) rfl (o_val (v := (.int .u64 (n.toNat : Nat))) hF167 rfl rfl rfl rfl (rn_move (hF167.get rfl)) ?_)
    intro a168 hF169; clear hF167
    refine wpl_op (i := 3) rfl (o_val (v := (.int .u64 ((n >>> UInt64.ofNat 32).toNat : Nat))) hF169 rfl rfl rfl rfl (rn_shr64 (a := n) (n := 32) (hF169.get rfl) rfl (by omega)) ?_)
    intro a170 hF171; clear hF169
    refine wpl_op (i := 4) rfl (o_val (v := (.int .u32 (((n >>> UInt64.ofNat 32).toUInt32).toNat : Nat))) hF171 rfl rfl rfl rfl (rn_convW Tryd.underlying49 Tryd.underlying47 (hF171.get rfl) (cv64_32 (n >>> UInt64.ofNat 32))) ?_)
    intro a172 hF173; clear hF171
    refine wpl_op (i := 5) rfl (o_val (v := (.int .u32 (((((h ++ iv).set 12 (((h ++ iv).getD 12 0) ^^^ n.toUInt32)).getD 13 0) ^^^ ((n >>> UInt64.ofNat 32).toUInt32)).toNat : Nat))) hF173 rfl rfl rfl rfl (rn_xor32 (a := (((h ++ iv).set 12 (((h ++ iv).getD 12 0) ^^^ n.toUInt32)).getD 13 0)) (b := ((n >>> UInt64.ofNat 32).toUInt32)) (hF173.get rfl) (hF173.get rfl)) ?_)
    intro a174 hF175; clear hF173
    refine wpl_op (i := 6) rfl (o_val (v := (.pointer (some ⟨g10, 0 + 13, none⟩))) hF175 rfl rfl rfl rfl (rn_indexArr Tryd.underlying63 (by kernel_rfl : (Tryd.prog.info? 47).map (·.size) = some 1) (hF175.get rfl) rfl (by omega : (0 : Int) ≤ 13) (by omega : (13 : Int) < ((16 : Nat) : Int))) ?_)
    intro a176 hF177; clear hF175
    refine wpl_op (i := 7) rfl (o_store1 (new := (u32Vals (((h ++ iv).set 12 (((h ++ iv).getD 12 0) ^^^ n.toUInt32)).set 13 ((((h ++ iv).set 12 (((h ++ iv).getD 12 0) ^^^ n.toUInt32)).getD 13 0) ^^^ ((n >>> UInt64.ofNat 32).toUInt32))))) hF177 rfl rfl rfl rfl (hF177.get rfl) (hF177.get rfl) b159 (by kernel_rfl : (Tryd.prog.info? 47).map (·.size) = some 1) (by rw [u32Vals_len (show List.length ((h ++ iv).set 12 (((h ++ iv).getD 12 0) ^^^ n.toUInt32)) = _ from List.length_set.trans (hiv_len hh))]; omega) rfl (u32Vals_set (by omega)) ?_)
    intro w178 b179 hg180; have z181 := hg180.size
    refine wpList_nil ?_
    refine hK163 _ _ ?_
    clear hK163
    have hF182 := ((((((((((hF177.nil.cons (hF177.get (t := 21) (v := (.bool (decide (((k : Nat) : Int) < ((b.length : Nat) : Int))))) rfl)).cons (hF177.get (t := 20) (v := (.int .i64 (k : Nat))) rfl)).cons (hF177.get (t := 19) (v := (.int .i64 (b.length : Nat))) rfl)).cons (hF177.get (t := 18) (v := (.slice A b.length c)) rfl)).cons (hF177.get (t := 9) (v := (.pointer (some ⟨g10, 0, none⟩))) rfl)).cons (hF177.get (t := 8) (v := (.pointer (some ⟨g2, 0, none⟩))) rfl)).cons (hF177.get (t := 3) (v := (.bool last)) rfl)).cons (hF177.get (t := 2) (v := (.int .u64 (n.toNat : Nat))) rfl)).cons (hF177.get (t := 1) (v := (.slice A b.length c)) rfl)).cons (hF177.get (t := 0) (v := (.pointer (some ⟨g, 0, none⟩))) rfl))
    clear hF177
    refine wp_seq_k (fun K183 hK183 => ?_)
    refine wp_seq_k (fun K184 hK184 => ?_)
    refine wp_region_lit ?_
    refine wpl_op (i := 0) rfl (o_val (v := (.bool last)) hF182 rfl rfl rfl rfl (rn_move (hF182.get rfl)) ?_)
    intro a185 hF186; clear hF182
    refine wpList_nil ?_
    refine hK184 _ _ ?_
    clear hK184
    rcases Bool.eq_false_or_eq_true last with hc187 | hc187
    · skip
      refine wp_cond_true (c_true hF186 rfl hc187) ?_
      refine wp_region_lit ?_
      refine wpl_op (i := 0) rfl (o_val (v := (.pointer (some ⟨g10, 0 + 14, none⟩))) hF186 rfl rfl rfl rfl (rn_indexArr Tryd.underlying63 (by kernel_rfl : (Tryd.prog.info? 47).map (·.size) = some 1) (hF186.get rfl) rfl (by omega : (0 : Int) ≤ 14) (by omega : (14 : Int) < ((16 : Nat) : Int))) ?_)
      intro a188 hF189; clear hF186
      refine wpl_op (i := 1) rfl (o_val (v := (.int .u32 (((((h ++ iv).set 12 (((h ++ iv).getD 12 0) ^^^ n.toUInt32)).set 13 ((((h ++ iv).set 12 (((h ++ iv).getD 12 0) ^^^ n.toUInt32)).getD 13 0) ^^^ ((n >>> UInt64.ofNat 32).toUInt32))).getD 14 0).toNat : Nat))) hF189 rfl rfl rfl rfl (rn_load (isAgg_no Tryd.underlying47 rfl) (hF189.get rfl) (blk_word b179 (by omega) (by have := (show List.length (((h ++ iv).set 12 (((h ++ iv).getD 12 0) ^^^ n.toUInt32)).set 13 ((((h ++ iv).set 12 (((h ++ iv).getD 12 0) ^^^ n.toUInt32)).getD 13 0) ^^^ ((n >>> UInt64.ofNat 32).toUInt32))) = _ from (show List.length (((h ++ iv).set 12 (((h ++ iv).getD 12 0) ^^^ n.toUInt32)).set 13 ((((h ++ iv).set 12 (((h ++ iv).getD 12 0) ^^^ n.toUInt32)).getD 13 0) ^^^ ((n >>> UInt64.ofNat 32).toUInt32))) = _ from List.length_set.trans (show List.length ((h ++ iv).set 12 (((h ++ iv).getD 12 0) ^^^ n.toUInt32)) = _ from List.length_set.trans (hiv_len hh)))); omega))) ?_)
      intro a190 hF191; clear hF189
      refine wpl_op (i := 2) rfl (o_val (v := (.int .u32 ((~~~ ((((h ++ iv).set 12 (((h ++ iv).getD 12 0) ^^^ n.toUInt32)).set 13 ((((h ++ iv).set 12 (((h ++ iv).getD 12 0) ^^^ n.toUInt32)).getD 13 0) ^^^ ((n >>> UInt64.ofNat 32).toUInt32))).getD 14 0)).toNat : Nat))) hF191 rfl rfl rfl rfl (rn_not32 (a := ((((h ++ iv).set 12 (((h ++ iv).getD 12 0) ^^^ n.toUInt32)).set 13 ((((h ++ iv).set 12 (((h ++ iv).getD 12 0) ^^^ n.toUInt32)).getD 13 0) ^^^ ((n >>> UInt64.ofNat 32).toUInt32))).getD 14 0)) (hF191.get rfl)) ?_)
      intro a192 hF193; clear hF191
      refine wpl_op (i := 3) rfl (o_val (v := (.pointer (some ⟨g10, 0 + 14, none⟩))) hF193 rfl rfl rfl rfl (rn_indexArr Tryd.underlying63 (by kernel_rfl : (Tryd.prog.info? 47).map (·.size) = some 1) (hF193.get rfl) rfl (by omega : (0 : Int) ≤ 14) (by omega : (14 : Int) < ((16 : Nat) : Int))) ?_)
      intro a194 hF195; clear hF193
      refine wpl_op (i := 4) rfl (o_store1 (new := (u32Vals ((((h ++ iv).set 12 (((h ++ iv).getD 12 0) ^^^ n.toUInt32)).set 13 ((((h ++ iv).set 12 (((h ++ iv).getD 12 0) ^^^ n.toUInt32)).getD 13 0) ^^^ ((n >>> UInt64.ofNat 32).toUInt32))).set 14 (~~~ ((((h ++ iv).set 12 (((h ++ iv).getD 12 0) ^^^ n.toUInt32)).set 13 ((((h ++ iv).set 12 (((h ++ iv).getD 12 0) ^^^ n.toUInt32)).getD 13 0) ^^^ ((n >>> UInt64.ofNat 32).toUInt32))).getD 14 0))))) hF195 rfl rfl rfl rfl (hF195.get rfl) (hF195.get rfl) b179 (by kernel_rfl : (Tryd.prog.info? 47).map (·.size) = some 1) (by rw [u32Vals_len (show List.length (((h ++ iv).set 12 (((h ++ iv).getD 12 0) ^^^ n.toUInt32)).set 13 ((((h ++ iv).set 12 (((h ++ iv).getD 12 0) ^^^ n.toUInt32)).getD 13 0) ^^^ ((n >>> UInt64.ofNat 32).toUInt32))) = _ from List.length_set.trans (show List.length ((h ++ iv).set 12 (((h ++ iv).getD 12 0) ^^^ n.toUInt32)) = _ from List.length_set.trans (hiv_len hh)))]; omega) rfl (u32Vals_set (by omega)) ?_)
      intro w196 b197 hg198; have z199 := hg198.size
      refine wpList_nil ?_
      refine hK183 _ _ ?_
      clear hK183
      have hF200 := (((((((((((hF195.nil.cons (hF195.get (t := 59) (v := (.bool last)) rfl)).cons (hF195.get (t := 21) (v := (.bool (decide (((k : Nat) : Int) < ((b.length : Nat) : Int))))) rfl)).cons (hF195.get (t := 20) (v := (.int .i64 (k : Nat))) rfl)).cons (hF195.get (t := 19) (v := (.int .i64 (b.length : Nat))) rfl)).cons (hF195.get (t := 18) (v := (.slice A b.length c)) rfl)).cons (hF195.get (t := 9) (v := (.pointer (some ⟨g10, 0, none⟩))) rfl)).cons (hF195.get (t := 8) (v := (.pointer (some ⟨g2, 0, none⟩))) rfl)).cons (hF195.get (t := 3) (v := (.bool last)) rfl)).cons (hF195.get (t := 2) (v := (.int .u64 (n.toNat : Nat))) rfl)).cons (hF195.get (t := 1) (v := (.slice A b.length c)) rfl)).cons (hF195.get (t := 0) (v := (.pointer (some ⟨g, 0, none⟩))) rfl))
      clear hF195
      refine wp_seq_k (fun K201 hK201 => ?_)
      refine wp_region_lit ?_
      refine wpl_op (i := 0) rfl (o_val (v := (.func (.func 37) #[(.pointer (some ⟨g10, 0, none⟩))] #[])) hF200 rfl rfl rfl rfl (rn_makeFunc (args1 (hF200.get rfl)) (args0)) ?_)
      intro a202 hF203; clear hF200
      refine wpl_op (i := 1) rfl (o_val (v := (.func (.func 37) #[(.pointer (some ⟨g10, 0, none⟩))] #[])) hF203 rfl rfl rfl rfl (rn_assign (hF203.get rfl)) ?_)
      intro a204 hF205; clear hF203
      refine wpList_nil ?_
      refine hK201 _ _ ?_
      clear hK201
      refine wp_seq_k (fun K206 hK206 => ?_)
      refine wp_seq_k (fun K207 hK207 => ?_)
      refine wp_region_lit ?_
      refine wpl_op (i := 0) rfl (o_val (v := (.agg (byteVals permB).toArray)) hF205 rfl rfl rfl rfl (rn_loadN (cs := byteVals permB) rfl Tryd.underlying68 rfl ((by kernel_rfl : (Tryd.prog.info? 68).map (·.size) = some 160).trans (congrArg some (byteVals_len permB_len).symm)) (fun j v hv => (hG.ext (((((((((Ext.refl w).trans hx31).trans hx109).grownN hg124 (by omega)).trans hx131).grownN hg141 (by omega)).grownN hg160 (by omega)).grownN hg180 (by omega)).grownN hg198 (by omega))).at1 j v hv)) ?_)
      intro a208 hF209; clear hF205
      refine wpl_op (i := 1) rfl (o_val (v := (.int .i64 0)) hF209 rfl rfl rfl rfl (rn_move rfl) ?_)
      intro a210 hF211; clear hF209
      refine wpList_nil ?_
      refine hK207 _ _ ?_
      clear hK207
      refine wp_block ?_
      have hmw : m = words b := words_eq hp33 (by omega)
      obtain ⟨v212, e213⟩ : ∃ z, z = (((h ++ iv).set 12 (((h ++ iv).getD 12 0) ^^^ n.toUInt32)).set 13 ((((h ++ iv).set 12 (((h ++ iv).getD 12 0) ^^^ n.toUInt32)).getD 13 0) ^^^ ((n >>> UInt64.ofNat 32).toUInt32))).set 14 (~~~ ((((h ++ iv).set 12 (((h ++ iv).getD 12 0) ^^^ n.toUInt32)).set 13 ((((h ++ iv).set 12 (((h ++ iv).getD 12 0) ^^^ n.toUInt32)).getD 13 0) ^^^ ((n >>> UInt64.ofNat 32).toUInt32))).getD 14 0)) := ⟨_, rfl⟩
      have hl214 : v212.length = 16 := (congrArg List.length e213).trans (show List.length ((((h ++ iv).set 12 (((h ++ iv).getD 12 0) ^^^ n.toUInt32)).set 13 ((((h ++ iv).set 12 (((h ++ iv).getD 12 0) ^^^ n.toUInt32)).getD 13 0) ^^^ ((n >>> UInt64.ofNat 32).toUInt32))).set 14 (~~~ ((((h ++ iv).set 12 (((h ++ iv).getD 12 0) ^^^ n.toUInt32)).set 13 ((((h ++ iv).set 12 (((h ++ iv).getD 12 0) ^^^ n.toUInt32)).getD 13 0) ^^^ ((n >>> UInt64.ofNat 32).toUInt32))).getD 14 0))) = _ from List.length_set.trans (show List.length (((h ++ iv).set 12 (((h ++ iv).getD 12 0) ^^^ n.toUInt32)).set 13 ((((h ++ iv).set 12 (((h ++ iv).getD 12 0) ^^^ n.toUInt32)).getD 13 0) ^^^ ((n >>> UInt64.ofNat 32).toUInt32))) = _ from List.length_set.trans (show List.length ((h ++ iv).set 12 (((h ++ iv).getD 12 0) ^^^ n.toUInt32)) = _ from List.length_set.trans (hiv_len hh))))
      rw [← e213] at b197
      have hv0 : v212 = begin_ h n last := by rw [e213, hc187]; exact begin_true
      have b215 : Blk w196 g 48 (u32Vals h) := ((((((b121.grownN hg124 (by omega)).ext hx131).grownN hg141 (by omega)).grownN hg160 (by omega)).grownN hg180 (by omega)).grownN hg198 (by omega))
      have b216 : Blk w196 g2 63 (u32Vals m) := (((((((b35.ext hx109).grownN hg124 (by omega)).ext hx131).grownN hg141 (by omega)).grownN hg160 (by omega)).grownN hg180 (by omega)).grownN hg198 (by omega))
      refine wp_loop (fun a' W => ∃ (r : Nat) (v : List UInt32), Sl 149 [(0, (.pointer (some ⟨g, 0, none⟩))), (1, (.slice A b.length c)), (2, (.int .u64 (n.toNat : Nat))), (3, (.bool last)), (8, (.pointer (some ⟨g2, 0, none⟩))), (9, (.pointer (some ⟨g10, 0, none⟩))), (18, (.slice A b.length c)), (19, (.int .i64 (b.length : Nat))), (20, (.int .i64 (k : Nat))), (21, (.bool (decide (((k : Nat) : Int) < ((b.length : Nat) : Int))))), (59, (.bool last)), (12, (.func (.func 37) #[(.pointer (some ⟨g10, 0, none⟩))] #[])), (65, (.agg (byteVals permB).toArray)), (66, (.int .i64 (r : Nat)))] a' ∧ r ≤ 10 ∧ v = roundTo m v212 r ∧ Ext w W ∧ Blk W g 48 (u32Vals h) ∧ Blk W g2 63 (u32Vals m) ∧ Blk W g10 63 (u32Vals v)) (fun a' _ => 10 - (intOf (a'.eval (.tmp 66))).toNat) ⟨0, v212, ((((((((((((((hF211.nil.cons (q_get hF211 (t := 66) rfl (by first | rfl | (congr 1; omega) | (congr 1; done)))).cons (q_get hF211 (t := 65) rfl rfl)).cons (q_get hF211 (t := 12) rfl rfl)).cons (q_get hF211 (t := 59) rfl rfl)).cons (q_get hF211 (t := 21) rfl rfl)).cons (q_get hF211 (t := 20) rfl rfl)).cons (q_get hF211 (t := 19) rfl rfl)).cons (q_get hF211 (t := 18) rfl rfl)).cons (q_get hF211 (t := 9) rfl rfl)).cons (q_get hF211 (t := 8) rfl rfl)).cons (q_get hF211 (t := 3) rfl rfl)).cons (q_get hF211 (t := 2) rfl rfl)).cons (q_get hF211 (t := 1) rfl rfl)).cons (q_get hF211 (t := 0) rfl rfl)), (by omega), rfl, (((((((((Ext.refl w).trans hx31).trans hx109).grownN hg124 (by omega)).trans hx131).grownN hg141 (by omega)).grownN hg160 (by omega)).grownN hg180 (by omega)).grownN hg198 (by omega)), b215, b216, b197⟩ ?_
      clear hF211
      rintro a217 w218 ⟨r, v, hF219, hp221, hp222, hx220, b223, b224, b225⟩
      have hL226 := hF219
      have z227 := hx220.size
      have z228 := b223.lt
      have z229 := b224.lt
      have z230 := b225.lt
      have hvl : v.length = 16 := by rw [hp222]; exact roundTo_len hl214
      refine wp_seq_k (fun K231 hK231 => ?_)
      refine wp_region_lit ?_
      refine wpl_op (i := 0) rfl (o_val (v := (.bool (decide (((r : Nat) : Int) < (10 : Int))))) hF219 rfl rfl rfl rfl (rn_lss (hF219.get rfl) rfl) ?_)
      intro a232 hF233; clear hF219
      refine wpList_nil ?_
      refine hK231 _ _ ?_
      clear hK231
      refine wp_seq_k (fun K234 hK234 => ?_)
      by_cases hc235 : ((r : Nat) : Int) < (10 : Int)
      · skip
        refine wp_cond_true (c_true hF233 rfl (decide_eq_true hc235)) ?_
        refine wp_skip ?_
        refine hK234 _ _ ?_
        clear hK234
        refine wp_seq_k (fun K236 hK236 => ?_)
        refine wp_block ?_
        refine wp_seq_k (fun K237 hK237 => ?_)
        refine wp_region_lit ?_
        refine wpl_op (i := 0) rfl (o_val (v := (.agg (byteVals ((permB.drop (r * 16)).take 16)).toArray)) hF233 rfl rfl rfl rfl ((rn_indexAA Tryd.underlying68 Tryd.underlying67 rfl (by kernel_rfl : (Tryd.prog.info? 67).map (·.size) = some 16) (hF233.get rfl) (hF233.get rfl) (by omega : (0 : Int) ≤ (r : Nat)) (by omega : ((r : Nat) : Int) < ((10 : Nat) : Int))).trans (congrArg (fun v => Result.ok (Next.value (Value.agg v)) _) (bytes_part _ _ _))) ?_)
        intro a238 hF239; clear hF233
        refine wpl_op (i := 1) rfl (o_new (fun g => (.pointer (some ⟨g, 0, none⟩))) (byteVals (List.replicate 16 0)) 67 hF239 rfl rfl rfl rfl (by kernel_rfl) ?_)
        intro g240 w241 a246 hF247 z244 z245 b242 hx243; clear hF239
        refine wpl_op (i := 2) rfl (o_store (cells := (byteVals ((permB.drop (r * 16)).take 16))) hF247 rfl rfl rfl rfl (hF247.get rfl) (hF247.get rfl) b242 ((by kernel_rfl : (Tryd.prog.info? 67).map (·.size) = some 16).trans (congrArg some (byteVals_len (len_part (i := r) (k := 16) permB_len (by omega))).symm)) ((byteVals_len (show List.length (List.replicate 16 0) = _ from List.length_replicate)).trans (byteVals_len (len_part (i := r) (k := 16) permB_len (by omega))).symm) (byteVals_one _) ?_)
        intro w248 b249 hg250; have z251 := hg250.size
        refine wpList_nil ?_
        refine hK237 _ _ ?_
        clear hK237
        refine wp_seq_k (fun K252 hK252 => ?_)
        refine wp_seq_k (fun K253 hK253 => ?_)
        refine wp_region_lit ?_
        refine wpl_op (i := 0) rfl (o_val (v := (.int .i64 0)) hF247 rfl rfl rfl rfl (rn_move rfl) ?_)
        intro a254 hF255; clear hF247
        refine wpList_nil ?_
        refine hK253 _ _ ?_
        clear hK253
        refine wp_block ?_
        have b256 : Blk w248 g 48 (u32Vals h) := ((b223.ext hx243).grownN hg250 (by omega))
        have b257 : Blk w248 g2 63 (u32Vals m) := ((b224.ext hx243).grownN hg250 (by omega))
        have b258 : Blk w248 g10 63 (u32Vals v) := ((b225.ext hx243).grownN hg250 (by omega))
        refine wp_loop (fun a' W => ∃ (k1 : Nat) (v1 : List UInt32), Sl 149 [(0, (.pointer (some ⟨g, 0, none⟩))), (1, (.slice A b.length c)), (2, (.int .u64 (n.toNat : Nat))), (3, (.bool last)), (8, (.pointer (some ⟨g2, 0, none⟩))), (9, (.pointer (some ⟨g10, 0, none⟩))), (18, (.slice A b.length c)), (19, (.int .i64 (b.length : Nat))), (20, (.int .i64 (k : Nat))), (21, (.bool (decide (((k : Nat) : Int) < ((b.length : Nat) : Int))))), (59, (.bool last)), (12, (.func (.func 37) #[(.pointer (some ⟨g10, 0, none⟩))] #[])), (65, (.agg (byteVals permB).toArray)), (66, (.int .i64 (r : Nat))), (67, (.bool (decide (((r : Nat) : Int) < (10 : Int))))), (14, (.pointer (some ⟨g240, 0, none⟩))), (69, (.int .i64 (k1 : Nat)))] a' ∧ k1 ≤ 4 ∧ v1 = mixTo m (permRow r) v (k1) ∧ Ext w W ∧ Blk W g 48 (u32Vals h) ∧ Blk W g2 63 (u32Vals m) ∧ Blk W g10 63 (u32Vals v1) ∧ Blk W g240 67 (byteVals ((permB.drop (r * 16)).take 16))) (fun a' _ => 4 - (intOf (a'.eval (.tmp 69))).toNat) ⟨0, v, (((((((((((((((((hF255.nil.cons (q_get hF255 (t := 69) rfl (by first | rfl | (congr 1; omega) | (congr 1; done)))).cons (q_get hF255 (t := 14) rfl rfl)).cons (q_get hF255 (t := 67) rfl rfl)).cons (q_get hF255 (t := 66) rfl rfl)).cons (q_get hF255 (t := 65) rfl rfl)).cons (q_get hF255 (t := 12) rfl rfl)).cons (q_get hF255 (t := 59) rfl rfl)).cons (q_get hF255 (t := 21) rfl rfl)).cons (q_get hF255 (t := 20) rfl rfl)).cons (q_get hF255 (t := 19) rfl rfl)).cons (q_get hF255 (t := 18) rfl rfl)).cons (q_get hF255 (t := 9) rfl rfl)).cons (q_get hF255 (t := 8) rfl rfl)).cons (q_get hF255 (t := 3) rfl rfl)).cons (q_get hF255 (t := 2) rfl rfl)).cons (q_get hF255 (t := 1) rfl rfl)).cons (q_get hF255 (t := 0) rfl rfl)), (by omega), rfl, ((((Ext.refl w).trans hx220).trans hx243).grownN hg250 (by omega)), b256, b257, b258, b249⟩ ?_
        clear hF255
        rintro a259 w260 ⟨k1, v1, hF261, hp263, hp264, hx262, b265, b266, b267, b268⟩
        have hL269 := hF261
        have z270 := hx262.size
        have z271 := b265.lt
        have z272 := b266.lt
        have z273 := b267.lt
        have z274 := b268.lt
        have hlv1 : v1.length = 16 := by rw [hp264]; exact mixTo_len hvl
        refine wp_seq_k (fun K275 hK275 => ?_)
        refine wp_region_lit ?_
        refine wpl_op (i := 0) rfl (o_val (v := (.bool (decide (((k1 : Nat) : Int) < (4 : Int))))) hF261 rfl rfl rfl rfl (rn_lss (hF261.get rfl) rfl) ?_)
        intro a276 hF277; clear hF261
        refine wpList_nil ?_
        refine hK275 _ _ ?_
        clear hK275
        refine wp_seq_k (fun K278 hK278 => ?_)
        by_cases hc279 : ((k1 : Nat) : Int) < (4 : Int)
        · skip
          refine wp_cond_true (c_true hF277 rfl (decide_eq_true hc279)) ?_
          refine wp_skip ?_
          refine hK278 _ _ ?_
          clear hK278
          refine wp_seq_k (fun K280 hK280 => ?_)
          refine wp_block ?_
          refine wp_seq_k (fun K281 hK281 => ?_)
          refine wp_region_lit ?_
          refine wpl_op (i := 0) rfl (o_val (v := (.int .i64 (k1 : Nat))) hF277 rfl rfl rfl rfl (rn_move (hF277.get rfl)) ?_)
          intro a282 hF283; clear hF277
          refine wpl_op (i := 1) rfl (o_val (v := (.int .i64 (k1 : Nat))) hF283 rfl rfl rfl rfl (rn_assign (hF283.get rfl)) ?_)
          intro a284 hF285; clear hF283
          refine wpList_nil ?_
          refine hK281 _ _ ?_
          clear hK281
          have z286 := perm_lt (r := r) (by omega) (j := 2 * k1) (by omega)
          have z287 := perm_lt (r := r) (by omega) (j := (2 * k1) + 1) (by omega)
          have hx289 : ∃ W, w260.drew = W ∧ Ext w260 W := ⟨_, rfl, (Ext.refl _).drew⟩
          obtain ⟨w288, e290, hx289⟩ := hx289
          have z291 := hx289.size
          refine any_start (fun W => True ∧ Blk W g240 67 (byteVals ((permB.drop (r * 16)).take 16)) ∧ Blk W g2 63 (u32Vals m)) (fun i => false) 22 #[false, false, false, false, false, false, false, false, false, false, false, false, false, false, false, false, false, false, false, false, false, false] rfl rfl rfl ?_
          rw [e290]; clear e290
          refine any_pure (i := 0) (v := (.func (.func 37) #[(.pointer (some ⟨g10, 0, none⟩))] #[])) hF285 (by decide +kernel) (by decide +kernel) rfl rfl rfl rfl (fun _ _ _ _ h => h) rfl (fun W => (rn_move (hF285.get rfl))) ?_
          intro a292 hF293; clear hF285
          refine any_pure (i := 1) (v := (.int .i64 (k1 : Nat))) hF293 (by decide +kernel) (by decide +kernel) rfl rfl rfl rfl (fun _ _ _ _ h => h) rfl (fun W => (rn_move (hF293.get rfl))) ?_
          intro a294 hF295; clear hF293
          refine any_pure (i := 2) (v := (.int .i64 (k1 : Nat))) hF295 (by decide +kernel) (by decide +kernel) rfl rfl rfl rfl (fun _ _ _ _ h => h) rfl (fun W => (rn_move (hF295.get rfl))) ?_
          intro a296 hF297; clear hF295
          refine any_pure (i := 3) (v := (.int .i64 (4 + k1 : Nat))) hF297 (by decide +kernel) (by decide +kernel) rfl rfl rfl rfl (fun _ _ _ _ h => h) rfl (fun W => (rn_addN (a := 4) (b := k1) rfl (hF297.get rfl) (by omega))) ?_
          intro a298 hF299; clear hF297
          refine any_pure (i := 4) (v := (.int .i64 (k1 : Nat))) hF299 (by decide +kernel) (by decide +kernel) rfl rfl rfl rfl (fun _ _ _ _ h => h) rfl (fun W => (rn_move (hF299.get rfl))) ?_
          intro a300 hF301; clear hF299
          refine any_pure (i := 5) (v := (.int .i64 (8 + k1 : Nat))) hF301 (by decide +kernel) (by decide +kernel) rfl rfl rfl rfl (fun _ _ _ _ h => h) rfl (fun W => (rn_addN (a := 8) (b := k1) rfl (hF301.get rfl) (by omega))) ?_
          intro a302 hF303; clear hF301
          refine any_pure (i := 6) (v := (.int .i64 (k1 : Nat))) hF303 (by decide +kernel) (by decide +kernel) rfl rfl rfl rfl (fun _ _ _ _ h => h) rfl (fun W => (rn_move (hF303.get rfl))) ?_
          intro a304 hF305; clear hF303
          refine any_pure (i := 7) (v := (.int .i64 (12 + k1 : Nat))) hF305 (by decide +kernel) (by decide +kernel) rfl rfl rfl rfl (fun _ _ _ _ h => h) rfl (fun W => (rn_addN (a := 12) (b := k1) rfl (hF305.get rfl) (by omega))) ?_
          intro a306 hF307; clear hF305
          refine any_pure (i := 8) (v := (.int .i64 (k1 : Nat))) hF307 (by decide +kernel) (by decide +kernel) rfl rfl rfl rfl (fun _ _ _ _ h => h) rfl (fun W => (rn_move (hF307.get rfl))) ?_
          intro a308 hF309; clear hF307
          refine any_pure (i := 9) (v := (.int .i64 (2 * k1 : Nat))) hF309 (by decide +kernel) (by decide +kernel) rfl rfl rfl rfl (fun _ _ _ _ h => h) rfl (fun W => (rn_mulN (a := 2) (b := k1) rfl (hF309.get rfl) (by omega))) ?_
          intro a310 hF311; clear hF309
          refine any_pure (i := 10) (v := (.pointer (some ⟨g240, 0 + (2 * k1), none⟩))) hF311 (by decide +kernel) (by decide +kernel) rfl rfl rfl rfl (fun _ _ _ _ h => h) rfl (fun W => (rn_indexArr Tryd.underlying67 (by kernel_rfl : (Tryd.prog.info? 5).map (·.size) = some 1) (hF311.get rfl) (hF311.get rfl) (by omega : (0 : Int) ≤ (2 * k1 : Nat)) (by omega : ((2 * k1 : Nat) : Int) < ((16 : Nat) : Int)))) ?_
          intro a312 hF313; clear hF311
          have b315 : Blk w288 g240 67 (byteVals ((permB.drop (r * 16)).take 16)) := (b268.ext hx289)
          have b316 : Blk w288 g2 63 (u32Vals m) := (b266.ext hx289)
          have hS314 : True ∧ Blk w288 g240 67 (byteVals ((permB.drop (r * 16)).take 16)) ∧ Blk w288 g2 63 (u32Vals m) := ⟨trivial, b315, b316⟩
          refine any_val (i := 11) (v := (.int .u8 ((((permB.drop (r * 16)).take 16).getD (2 * k1) 0).toNat : Nat))) hF313 (by decide +kernel) (by decide +kernel) rfl rfl rfl rfl (fun _ _ _ _ h => h) rfl hS314 (fun W hW => (rn_load (isAgg_no Tryd.underlying5 rfl) (hF313.get rfl) (blk_byte hW.2.1 (by omega) (by have := (show List.length ((permB.drop (r * 16)).take 16) = _ from (len_part (i := r) (k := 16) permB_len (by omega))); omega)))) ?_
          intro a317 hF318; clear hF313
          refine any_pure (i := 12) (v := (.pointer (some ⟨g2, 0 + ((((permB.drop (r * 16)).take 16).getD (2 * k1) 0).toNat), none⟩))) hF318 (by decide +kernel) (by decide +kernel) rfl rfl rfl rfl (fun _ _ _ _ h => h) rfl (fun W => (rn_indexArr Tryd.underlying63 (by kernel_rfl : (Tryd.prog.info? 47).map (·.size) = some 1) (hF318.get rfl) (hF318.get rfl) (by omega : (0 : Int) ≤ ((((permB.drop (r * 16)).take 16).getD (2 * k1) 0).toNat : Nat)) (by omega : (((((permB.drop (r * 16)).take 16).getD (2 * k1) 0).toNat : Nat) : Int) < ((16 : Nat) : Int)))) ?_
          intro a319 hF320; clear hF318
          refine any_val (i := 13) (v := (.int .u32 ((m.getD ((((permB.drop (r * 16)).take 16).getD (2 * k1) 0).toNat) 0).toNat : Nat))) hF320 (by decide +kernel) (by decide +kernel) rfl rfl rfl rfl (fun _ _ _ _ h => h) rfl hS314 (fun W hW => (rn_load (isAgg_no Tryd.underlying47 rfl) (hF320.get rfl) (blk_word hW.2.2 (by omega) (by have := (show List.length m = _ from hm); omega)))) ?_
          intro a321 hF322; clear hF320
          refine any_pure (i := 14) (v := (.int .i64 (k1 : Nat))) hF322 (by decide +kernel) (by decide +kernel) rfl rfl rfl rfl (fun _ _ _ _ h => h) rfl (fun W => (rn_move (hF322.get rfl))) ?_
          intro a323 hF324; clear hF322
          refine any_pure (i := 15) (v := (.int .i64 (2 * k1 : Nat))) hF324 (by decide +kernel) (by decide +kernel) rfl rfl rfl rfl (fun _ _ _ _ h => h) rfl (fun W => (rn_mulN (a := 2) (b := k1) rfl (hF324.get rfl) (by omega))) ?_
          intro a325 hF326; clear hF324
          refine any_pure (i := 16) (v := (.int .i64 ((2 * k1) + 1 : Nat))) hF326 (by decide +kernel) (by decide +kernel) rfl rfl rfl rfl (fun _ _ _ _ h => h) rfl (fun W => (rn_addN (a := 2 * k1) (b := 1) (hF326.get rfl) rfl (by omega))) ?_
          intro a327 hF328; clear hF326
          refine any_pure (i := 17) (v := (.pointer (some ⟨g240, 0 + ((2 * k1) + 1), none⟩))) hF328 (by decide +kernel) (by decide +kernel) rfl rfl rfl rfl (fun _ _ _ _ h => h) rfl (fun W => (rn_indexArr Tryd.underlying67 (by kernel_rfl : (Tryd.prog.info? 5).map (·.size) = some 1) (hF328.get rfl) (hF328.get rfl) (by omega : (0 : Int) ≤ ((2 * k1) + 1 : Nat)) (by omega : (((2 * k1) + 1 : Nat) : Int) < ((16 : Nat) : Int)))) ?_
          intro a329 hF330; clear hF328
          refine any_val (i := 18) (v := (.int .u8 ((((permB.drop (r * 16)).take 16).getD ((2 * k1) + 1) 0).toNat : Nat))) hF330 (by decide +kernel) (by decide +kernel) rfl rfl rfl rfl (fun _ _ _ _ h => h) rfl hS314 (fun W hW => (rn_load (isAgg_no Tryd.underlying5 rfl) (hF330.get rfl) (blk_byte hW.2.1 (by omega) (by have := (show List.length ((permB.drop (r * 16)).take 16) = _ from (len_part (i := r) (k := 16) permB_len (by omega))); omega)))) ?_
          intro a331 hF332; clear hF330
          refine any_pure (i := 19) (v := (.pointer (some ⟨g2, 0 + ((((permB.drop (r * 16)).take 16).getD ((2 * k1) + 1) 0).toNat), none⟩))) hF332 (by decide +kernel) (by decide +kernel) rfl rfl rfl rfl (fun _ _ _ _ h => h) rfl (fun W => (rn_indexArr Tryd.underlying63 (by kernel_rfl : (Tryd.prog.info? 47).map (·.size) = some 1) (hF332.get rfl) (hF332.get rfl) (by omega : (0 : Int) ≤ ((((permB.drop (r * 16)).take 16).getD ((2 * k1) + 1) 0).toNat : Nat)) (by omega : (((((permB.drop (r * 16)).take 16).getD ((2 * k1) + 1) 0).toNat : Nat) : Int) < ((16 : Nat) : Int)))) ?_
          intro a333 hF334; clear hF332
          refine any_val (i := 20) (v := (.int .u32 ((m.getD ((((permB.drop (r * 16)).take 16).getD ((2 * k1) + 1) 0).toNat) 0).toNat : Nat))) hF334 (by decide +kernel) (by decide +kernel) rfl rfl rfl rfl (fun _ _ _ _ h => h) rfl hS314 (fun W hW => (rn_load (isAgg_no Tryd.underlying47 rfl) (hF334.get rfl) (blk_word hW.2.2 (by omega) (by have := (show List.length m = _ from hm); omega)))) ?_
          intro a335 hF336; clear hF334
          refine any_one (i := 21) (by decide +kernel) rfl ?_
          have b337 : Blk w288 g10 63 (u32Vals v1) := (b267.ext hx289)
          refine o_call hF336 rfl rfl rfl rfl (rn_callv (hF336.get rfl) (args1_6 (hF336.get rfl) (hF336.get rfl) (hF336.get rfl) (hF336.get rfl) (hF336.get rfl) (hF336.get rfl)) (by kernel_rfl)) (mix_any g10 v1 k1 (4 + k1) (8 + k1) (12 + k1) (m.getD ((((permB.drop (r * 16)).take 16).getD (2 * k1) 0).toNat) 0) (m.getD ((((permB.drop (r * 16)).take 16).getD ((2 * k1) + 1) 0).toNat) 0) _ b337 hlv1 (by omega) (by omega) (by omega) (by omega)) ?_
          rintro _ w338 ⟨rfl, b339, hg340⟩
          refine ⟨_, rfl, ?_⟩; intro a341 hF342; clear hF336; have z343 := hg340.size
          have b344 : Blk w338 g240 67 (byteVals ((permB.drop (r * 16)).take 16)) := (b315.grownN hg340 (by omega))
          have b345 : Blk w338 g2 63 (u32Vals m) := (b316.grownN hg340 (by omega))
          refine ⟨fun _ _ => ⟨trivial, b344, b345⟩, ?_⟩
          refine any_nil (by decide +kernel) ?_
          refine hK280 _ _ ?_
          clear hK280
          have hF346 := (((((((((((((((((((hF342.nil.cons (hF342.get (t := 15) (v := (.int .i64 (k1 : Nat))) rfl)).cons (hF342.get (t := 70) (v := (.bool (decide (((k1 : Nat) : Int) < (4 : Int))))) rfl)).cons (hF342.get (t := 69) (v := (.int .i64 (k1 : Nat))) rfl)).cons (hF342.get (t := 14) (v := (.pointer (some ⟨g240, 0, none⟩))) rfl)).cons (hF342.get (t := 67) (v := (.bool (decide (((r : Nat) : Int) < (10 : Int))))) rfl)).cons (hF342.get (t := 66) (v := (.int .i64 (r : Nat))) rfl)).cons (hF342.get (t := 65) (v := (.agg (byteVals permB).toArray)) rfl)).cons (hF342.get (t := 12) (v := (.func (.func 37) #[(.pointer (some ⟨g10, 0, none⟩))] #[])) rfl)).cons (hF342.get (t := 59) (v := (.bool last)) rfl)).cons (hF342.get (t := 21) (v := (.bool (decide (((k : Nat) : Int) < ((b.length : Nat) : Int))))) rfl)).cons (hF342.get (t := 20) (v := (.int .i64 (k : Nat))) rfl)).cons (hF342.get (t := 19) (v := (.int .i64 (b.length : Nat))) rfl)).cons (hF342.get (t := 18) (v := (.slice A b.length c)) rfl)).cons (hF342.get (t := 9) (v := (.pointer (some ⟨g10, 0, none⟩))) rfl)).cons (hF342.get (t := 8) (v := (.pointer (some ⟨g2, 0, none⟩))) rfl)).cons (hF342.get (t := 3) (v := (.bool last)) rfl)).cons (hF342.get (t := 2) (v := (.int .u64 (n.toNat : Nat))) rfl)).cons (hF342.get (t := 1) (v := (.slice A b.length c)) rfl)).cons (hF342.get (t := 0) (v := (.pointer (some ⟨g, 0, none⟩))) rfl))
          clear hF342
          refine wp_region_lit ?_
          refine wpl_op (i := 0) rfl (o_val (v := (.int .i64 (k1 + 1 : Nat))) hF346 rfl rfl rfl rfl (rn_addN (a := k1) (b := 1) (hF346.get rfl) rfl (by omega)) ?_)
          intro a347 hF348; clear hF346
          refine wpl_op (i := 1) rfl (o_val (v := (.int .i64 (k1 + 1 : Nat))) hF348 rfl rfl rfl rfl (rn_move (hF348.get rfl)) ?_)
          intro a349 hF350; clear hF348
          refine wpList_nil ?_
          obtain ⟨v351, e352⟩ : ∃ z, z = mixSeq v1 k1 (4 + k1) (8 + k1) (12 + k1) (m.getD ((((permB.drop (r * 16)).take 16).getD (2 * k1) 0).toNat) 0) (m.getD ((((permB.drop (r * 16)).take 16).getD ((2 * k1) + 1) 0).toNat) 0) := ⟨_, rfl⟩
          have hl353 : v351.length = 16 := (congrArg List.length e352).trans ((mixSeq_len _ _ _ _ _ _ _).trans hlv1)
          rw [← e352] at b339
          have b354 : Blk w338 g 48 (u32Vals h) := ((b265.ext hx289).grownN hg340 (by omega))
          refine ⟨⟨k1 + 1, v351, (((((((((((((((((hF350.nil.cons (q_get hF350 (t := 69) rfl (by first | rfl | (congr 1; omega) | (congr 1; done)))).cons (q_get hF350 (t := 14) rfl rfl)).cons (q_get hF350 (t := 67) rfl rfl)).cons (q_get hF350 (t := 66) rfl rfl)).cons (q_get hF350 (t := 65) rfl rfl)).cons (q_get hF350 (t := 12) rfl rfl)).cons (q_get hF350 (t := 59) rfl rfl)).cons (q_get hF350 (t := 21) rfl rfl)).cons (q_get hF350 (t := 20) rfl rfl)).cons (q_get hF350 (t := 19) rfl rfl)).cons (q_get hF350 (t := 18) rfl rfl)).cons (q_get hF350 (t := 9) rfl rfl)).cons (q_get hF350 (t := 8) rfl rfl)).cons (q_get hF350 (t := 3) rfl rfl)).cons (q_get hF350 (t := 2) rfl rfl)).cons (q_get hF350 (t := 1) rfl rfl)).cons (q_get hF350 (t := 0) rfl rfl)), (by omega), (mixTo_step1 (by omega) (by omega) hvl hp264 e352), ((((Ext.refl w).trans hx262).trans hx289).grownN hg340 (by omega)), b354, b345, b339, b344⟩, ?_⟩
          rw [hF350.get (t := 69) rfl, hL269.get (t := 69) rfl]; simp [intOf]; omega
        · skip
          refine wp_cond_false (c_false hF277 rfl (decide_eq_false hc279)) ?_
          refine wp_exit ?_
          refine exit_then ?_
          refine exit_then ?_
          refine exit_here ?_
          refine hK252 _ _ ?_
          clear hK252
          refine wp_seq_k (fun K355 hK355 => ?_)
          refine wp_region_lit ?_
          refine wpl_op (i := 0) rfl (o_val (v := (.int .i64 0)) hF277 rfl rfl rfl rfl (rn_move rfl) ?_)
          intro a356 hF357; clear hF277
          refine wpList_nil ?_
          refine hK355 _ _ ?_
          clear hK355
          refine wp_block ?_
          have hi4 : v1 = mixTo m (permRow r) v (4 + 0) := by rw [hp264, show k1 = 4 + 0 from by omega]
          refine wp_loop (fun a' W => ∃ (k2 : Nat) (v2 : List UInt32), Sl 149 [(0, (.pointer (some ⟨g, 0, none⟩))), (1, (.slice A b.length c)), (2, (.int .u64 (n.toNat : Nat))), (3, (.bool last)), (8, (.pointer (some ⟨g2, 0, none⟩))), (9, (.pointer (some ⟨g10, 0, none⟩))), (18, (.slice A b.length c)), (19, (.int .i64 (b.length : Nat))), (20, (.int .i64 (k : Nat))), (21, (.bool (decide (((k : Nat) : Int) < ((b.length : Nat) : Int))))), (59, (.bool last)), (12, (.func (.func 37) #[(.pointer (some ⟨g10, 0, none⟩))] #[])), (65, (.agg (byteVals permB).toArray)), (66, (.int .i64 (r : Nat))), (67, (.bool (decide (((r : Nat) : Int) < (10 : Int))))), (14, (.pointer (some ⟨g240, 0, none⟩))), (69, (.int .i64 (k1 : Nat))), (70, (.bool (decide (((k1 : Nat) : Int) < (4 : Int))))), (95, (.int .i64 (k2 : Nat)))] a' ∧ k2 ≤ 4 ∧ v2 = mixTo m (permRow r) v (4 + k2) ∧ Ext w W ∧ Blk W g 48 (u32Vals h) ∧ Blk W g2 63 (u32Vals m) ∧ Blk W g10 63 (u32Vals v2) ∧ Blk W g240 67 (byteVals ((permB.drop (r * 16)).take 16))) (fun a' _ => 4 - (intOf (a'.eval (.tmp 95))).toNat) ⟨0, v1, (((((((((((((((((((hF357.nil.cons (q_get hF357 (t := 95) rfl (by first | rfl | (congr 1; omega) | (congr 1; done)))).cons (q_get hF357 (t := 70) rfl rfl)).cons (q_get hF357 (t := 69) rfl rfl)).cons (q_get hF357 (t := 14) rfl rfl)).cons (q_get hF357 (t := 67) rfl rfl)).cons (q_get hF357 (t := 66) rfl rfl)).cons (q_get hF357 (t := 65) rfl rfl)).cons (q_get hF357 (t := 12) rfl rfl)).cons (q_get hF357 (t := 59) rfl rfl)).cons (q_get hF357 (t := 21) rfl rfl)).cons (q_get hF357 (t := 20) rfl rfl)).cons (q_get hF357 (t := 19) rfl rfl)).cons (q_get hF357 (t := 18) rfl rfl)).cons (q_get hF357 (t := 9) rfl rfl)).cons (q_get hF357 (t := 8) rfl rfl)).cons (q_get hF357 (t := 3) rfl rfl)).cons (q_get hF357 (t := 2) rfl rfl)).cons (q_get hF357 (t := 1) rfl rfl)).cons (q_get hF357 (t := 0) rfl rfl)), (by omega), hi4, ((Ext.refl w).trans hx262), b265, b266, b267, b268⟩ ?_
          clear hF357
          rintro a358 w359 ⟨k2, v2, hF360, hp362, hp363, hx361, b364, b365, b366, b367⟩
          have hL368 := hF360
          have z369 := hx361.size
          have z370 := b364.lt
          have z371 := b365.lt
          have z372 := b366.lt
          have z373 := b367.lt
          have hlv2 : v2.length = 16 := by rw [hp363]; exact mixTo_len hvl
          refine wp_seq_k (fun K374 hK374 => ?_)
          refine wp_region_lit ?_
          refine wpl_op (i := 0) rfl (o_val (v := (.bool (decide (((k2 : Nat) : Int) < (4 : Int))))) hF360 rfl rfl rfl rfl (rn_lss (hF360.get rfl) rfl) ?_)
          intro a375 hF376; clear hF360
          refine wpList_nil ?_
          refine hK374 _ _ ?_
          clear hK374
          refine wp_seq_k (fun K377 hK377 => ?_)
          by_cases hc378 : ((k2 : Nat) : Int) < (4 : Int)
          · skip
            refine wp_cond_true (c_true hF376 rfl (decide_eq_true hc378)) ?_
            refine wp_skip ?_
            refine hK377 _ _ ?_
            clear hK377
            refine wp_seq_k (fun K379 hK379 => ?_)
            refine wp_block ?_
            refine wp_seq_k (fun K380 hK380 => ?_)
            refine wp_region_lit ?_
            refine wpl_op (i := 0) rfl (o_val (v := (.int .i64 (k2 : Nat))) hF376 rfl rfl rfl rfl (rn_move (hF376.get rfl)) ?_)
            intro a381 hF382; clear hF376
            refine wpl_op (i := 1) rfl (o_val (v := (.int .i64 (k2 : Nat))) hF382 rfl rfl rfl rfl (rn_assign (hF382.get rfl)) ?_)
            intro a383 hF384; clear hF382
            refine wpList_nil ?_
            refine hK380 _ _ ?_
            clear hK380
            have z385 := perm_lt (r := r) (by omega) (j := 8 + (2 * k2)) (by omega)
            have z386 := perm_lt (r := r) (by omega) (j := 9 + (2 * k2)) (by omega)
            have hx388 : ∃ W, w359.drew = W ∧ Ext w359 W := ⟨_, rfl, (Ext.refl _).drew⟩
            obtain ⟨w387, e389, hx388⟩ := hx388
            have z390 := hx388.size
            refine any_start (fun W => True ∧ Blk W g240 67 (byteVals ((permB.drop (r * 16)).take 16)) ∧ Blk W g2 63 (u32Vals m)) (fun i => false) 29 #[false, false, false, false, false, false, false, false, false, false, false, false, false, false, false, false, false, false, false, false, false, false, false, false, false, false, false, false, false] rfl rfl rfl ?_
            rw [e389]; clear e389
            refine any_pure (i := 0) (v := (.func (.func 37) #[(.pointer (some ⟨g10, 0, none⟩))] #[])) hF384 (by decide +kernel) (by decide +kernel) rfl rfl rfl rfl (fun _ _ _ _ h => h) rfl (fun W => (rn_move (hF384.get rfl))) ?_
            intro a391 hF392; clear hF384
            refine any_pure (i := 1) (v := (.int .i64 (k2 : Nat))) hF392 (by decide +kernel) (by decide +kernel) rfl rfl rfl rfl (fun _ _ _ _ h => h) rfl (fun W => (rn_move (hF392.get rfl))) ?_
            intro a393 hF394; clear hF392
            refine any_pure (i := 2) (v := (.int .i64 (k2 : Nat))) hF394 (by decide +kernel) (by decide +kernel) rfl rfl rfl rfl (fun _ _ _ _ h => h) rfl (fun W => (rn_move (hF394.get rfl))) ?_
            intro a395 hF396; clear hF394
            refine any_pure (i := 3) (v := (.int .i64 (k2 + 1 : Nat))) hF396 (by decide +kernel) (by decide +kernel) rfl rfl rfl rfl (fun _ _ _ _ h => h) rfl (fun W => (rn_addN (a := k2) (b := 1) (hF396.get rfl) rfl (by omega))) ?_
            intro a397 hF398; clear hF396
            refine any_pure (i := 4) (v := (.int .i64 ((k2 + 1) % 4 : Nat))) hF398 (by decide +kernel) (by decide +kernel) rfl rfl rfl rfl (fun _ _ _ _ h => h) rfl (fun W => (rn_remN (a := k2 + 1) (b := 4) (hF398.get rfl) rfl (by omega))) ?_
            intro a399 hF400; clear hF398
            refine any_pure (i := 5) (v := (.int .i64 (4 + ((k2 + 1) % 4) : Nat))) hF400 (by decide +kernel) (by decide +kernel) rfl rfl rfl rfl (fun _ _ _ _ h => h) rfl (fun W => (rn_addN (a := 4) (b := (k2 + 1) % 4) rfl (hF400.get rfl) (by omega))) ?_
            intro a401 hF402; clear hF400
            refine any_pure (i := 6) (v := (.int .i64 (k2 : Nat))) hF402 (by decide +kernel) (by decide +kernel) rfl rfl rfl rfl (fun _ _ _ _ h => h) rfl (fun W => (rn_move (hF402.get rfl))) ?_
            intro a403 hF404; clear hF402
            refine any_pure (i := 7) (v := (.int .i64 (k2 + 2 : Nat))) hF404 (by decide +kernel) (by decide +kernel) rfl rfl rfl rfl (fun _ _ _ _ h => h) rfl (fun W => (rn_addN (a := k2) (b := 2) (hF404.get rfl) rfl (by omega))) ?_
            intro a405 hF406; clear hF404
            refine any_pure (i := 8) (v := (.int .i64 ((k2 + 2) % 4 : Nat))) hF406 (by decide +kernel) (by decide +kernel) rfl rfl rfl rfl (fun _ _ _ _ h => h) rfl (fun W => (rn_remN (a := k2 + 2) (b := 4) (hF406.get rfl) rfl (by omega))) ?_
            intro a407 hF408; clear hF406
            refine any_pure (i := 9) (v := (.int .i64 (8 + ((k2 + 2) % 4) : Nat))) hF408 (by decide +kernel) (by decide +kernel) rfl rfl rfl rfl (fun _ _ _ _ h => h) rfl (fun W => (rn_addN (a := 8) (b := (k2 + 2) % 4) rfl (hF408.get rfl) (by omega))) ?_
            intro a409 hF410; clear hF408
            refine any_pure (i := 10) (v := (.int .i64 (k2 : Nat))) hF410 (by decide +kernel) (by decide +kernel) rfl rfl rfl rfl (fun _ _ _ _ h => h) rfl (fun W => (rn_move (hF410.get rfl))) ?_
            intro a411 hF412; clear hF410
            refine any_pure (i := 11) (v := (.int .i64 (k2 + 3 : Nat))) hF412 (by decide +kernel) (by decide +kernel) rfl rfl rfl rfl (fun _ _ _ _ h => h) rfl (fun W => (rn_addN (a := k2) (b := 3) (hF412.get rfl) rfl (by omega))) ?_
            intro a413 hF414; clear hF412
            refine any_pure (i := 12) (v := (.int .i64 ((k2 + 3) % 4 : Nat))) hF414 (by decide +kernel) (by decide +kernel) rfl rfl rfl rfl (fun _ _ _ _ h => h) rfl (fun W => (rn_remN (a := k2 + 3) (b := 4) (hF414.get rfl) rfl (by omega))) ?_
            intro a415 hF416; clear hF414
            refine any_pure (i := 13) (v := (.int .i64 (12 + ((k2 + 3) % 4) : Nat))) hF416 (by decide +kernel) (by decide +kernel) rfl rfl rfl rfl (fun _ _ _ _ h => h) rfl (fun W => (rn_addN (a := 12) (b := (k2 + 3) % 4) rfl (hF416.get rfl) (by omega))) ?_
            intro a417 hF418; clear hF416
            refine any_pure (i := 14) (v := (.int .i64 (k2 : Nat))) hF418 (by decide +kernel) (by decide +kernel) rfl rfl rfl rfl (fun _ _ _ _ h => h) rfl (fun W => (rn_move (hF418.get rfl))) ?_
            intro a419 hF420; clear hF418
            refine any_pure (i := 15) (v := (.int .i64 (2 * k2 : Nat))) hF420 (by decide +kernel) (by decide +kernel) rfl rfl rfl rfl (fun _ _ _ _ h => h) rfl (fun W => (rn_mulN (a := 2) (b := k2) rfl (hF420.get rfl) (by omega))) ?_
            intro a421 hF422; clear hF420
            refine any_pure (i := 16) (v := (.int .i64 (8 + (2 * k2) : Nat))) hF422 (by decide +kernel) (by decide +kernel) rfl rfl rfl rfl (fun _ _ _ _ h => h) rfl (fun W => (rn_addN (a := 8) (b := 2 * k2) rfl (hF422.get rfl) (by omega))) ?_
            intro a423 hF424; clear hF422
            refine any_pure (i := 17) (v := (.pointer (some ⟨g240, 0 + (8 + (2 * k2)), none⟩))) hF424 (by decide +kernel) (by decide +kernel) rfl rfl rfl rfl (fun _ _ _ _ h => h) rfl (fun W => (rn_indexArr Tryd.underlying67 (by kernel_rfl : (Tryd.prog.info? 5).map (·.size) = some 1) (hF424.get rfl) (hF424.get rfl) (by omega : (0 : Int) ≤ (8 + (2 * k2) : Nat)) (by omega : ((8 + (2 * k2) : Nat) : Int) < ((16 : Nat) : Int)))) ?_
            intro a425 hF426; clear hF424
            have b428 : Blk w387 g240 67 (byteVals ((permB.drop (r * 16)).take 16)) := (b367.ext hx388)
            have b429 : Blk w387 g2 63 (u32Vals m) := (b365.ext hx388)
            have hS427 : True ∧ Blk w387 g240 67 (byteVals ((permB.drop (r * 16)).take 16)) ∧ Blk w387 g2 63 (u32Vals m) := ⟨trivial, b428, b429⟩
            refine any_val (i := 18) (v := (.int .u8 ((((permB.drop (r * 16)).take 16).getD (8 + (2 * k2)) 0).toNat : Nat))) hF426 (by decide +kernel) (by decide +kernel) rfl rfl rfl rfl (fun _ _ _ _ h => h) rfl hS427 (fun W hW => (rn_load (isAgg_no Tryd.underlying5 rfl) (hF426.get rfl) (blk_byte hW.2.1 (by omega) (by have := (show List.length ((permB.drop (r * 16)).take 16) = _ from (len_part (i := r) (k := 16) permB_len (by omega))); omega)))) ?_
            intro a430 hF431; clear hF426
            refine any_pure (i := 19) (v := (.pointer (some ⟨g2, 0 + ((((permB.drop (r * 16)).take 16).getD (8 + (2 * k2)) 0).toNat), none⟩))) hF431 (by decide +kernel) (by decide +kernel) rfl rfl rfl rfl (fun _ _ _ _ h => h) rfl (fun W => (rn_indexArr Tryd.underlying63 (by kernel_rfl : (Tryd.prog.info? 47).map (·.size) = some 1) (hF431.get rfl) (hF431.get rfl) (by omega : (0 : Int) ≤ ((((permB.drop (r * 16)).take 16).getD (8 + (2 * k2)) 0).toNat : Nat)) (by omega : (((((permB.drop (r * 16)).take 16).getD (8 + (2 * k2)) 0).toNat : Nat) : Int) < ((16 : Nat) : Int)))) ?_
            intro a432 hF433; clear hF431
            refine any_val (i := 20) (v := (.int .u32 ((m.getD ((((permB.drop (r * 16)).take 16).getD (8 + (2 * k2)) 0).toNat) 0).toNat : Nat))) hF433 (by decide +kernel) (by decide +kernel) rfl rfl rfl rfl (fun _ _ _ _ h => h) rfl hS427 (fun W hW => (rn_load (isAgg_no Tryd.underlying47 rfl) (hF433.get rfl) (blk_word hW.2.2 (by omega) (by have := (show List.length m = _ from hm); omega)))) ?_
            intro a434 hF435; clear hF433
            refine any_pure (i := 21) (v := (.int .i64 (k2 : Nat))) hF435 (by decide +kernel) (by decide +kernel) rfl rfl rfl rfl (fun _ _ _ _ h => h) rfl (fun W => (rn_move (hF435.get rfl))) ?_
            intro a436 hF437; clear hF435
            refine any_pure (i := 22) (v := (.int .i64 (2 * k2 : Nat))) hF437 (by decide +kernel) (by decide +kernel) rfl rfl rfl rfl (fun _ _ _ _ h => h) rfl (fun W => (rn_mulN (a := 2) (b := k2) rfl (hF437.get rfl) (by omega))) ?_
            intro a438 hF439; clear hF437
            refine any_pure (i := 23) (v := (.int .i64 (9 + (2 * k2) : Nat))) hF439 (by decide +kernel) (by decide +kernel) rfl rfl rfl rfl (fun _ _ _ _ h => h) rfl (fun W => (rn_addN (a := 9) (b := 2 * k2) rfl (hF439.get rfl) (by omega))) ?_
            intro a440 hF441; clear hF439
            refine any_pure (i := 24) (v := (.pointer (some ⟨g240, 0 + (9 + (2 * k2)), none⟩))) hF441 (by decide +kernel) (by decide +kernel) rfl rfl rfl rfl (fun _ _ _ _ h => h) rfl (fun W => (rn_indexArr Tryd.underlying67 (by kernel_rfl : (Tryd.prog.info? 5).map (·.size) = some 1) (hF441.get rfl) (hF441.get rfl) (by omega : (0 : Int) ≤ (9 + (2 * k2) : Nat)) (by omega : ((9 + (2 * k2) : Nat) : Int) < ((16 : Nat) : Int)))) ?_
            intro a442 hF443; clear hF441
            refine any_val (i := 25) (v := (.int .u8 ((((permB.drop (r * 16)).take 16).getD (9 + (2 * k2)) 0).toNat : Nat))) hF443 (by decide +kernel) (by decide +kernel) rfl rfl rfl rfl (fun _ _ _ _ h => h) rfl hS427 (fun W hW => (rn_load (isAgg_no Tryd.underlying5 rfl) (hF443.get rfl) (blk_byte hW.2.1 (by omega) (by have := (show List.length ((permB.drop (r * 16)).take 16) = _ from (len_part (i := r) (k := 16) permB_len (by omega))); omega)))) ?_
            intro a444 hF445; clear hF443
            refine any_pure (i := 26) (v := (.pointer (some ⟨g2, 0 + ((((permB.drop (r * 16)).take 16).getD (9 + (2 * k2)) 0).toNat), none⟩))) hF445 (by decide +kernel) (by decide +kernel) rfl rfl rfl rfl (fun _ _ _ _ h => h) rfl (fun W => (rn_indexArr Tryd.underlying63 (by kernel_rfl : (Tryd.prog.info? 47).map (·.size) = some 1) (hF445.get rfl) (hF445.get rfl) (by omega : (0 : Int) ≤ ((((permB.drop (r * 16)).take 16).getD (9 + (2 * k2)) 0).toNat : Nat)) (by omega : (((((permB.drop (r * 16)).take 16).getD (9 + (2 * k2)) 0).toNat : Nat) : Int) < ((16 : Nat) : Int)))) ?_
            intro a446 hF447; clear hF445
            refine any_val (i := 27) (v := (.int .u32 ((m.getD ((((permB.drop (r * 16)).take 16).getD (9 + (2 * k2)) 0).toNat) 0).toNat : Nat))) hF447 (by decide +kernel) (by decide +kernel) rfl rfl rfl rfl (fun _ _ _ _ h => h) rfl hS427 (fun W hW => (rn_load (isAgg_no Tryd.underlying47 rfl) (hF447.get rfl) (blk_word hW.2.2 (by omega) (by have := (show List.length m = _ from hm); omega)))) ?_
            intro a448 hF449; clear hF447
            refine any_one (i := 28) (by decide +kernel) rfl ?_
            have b450 : Blk w387 g10 63 (u32Vals v2) := (b366.ext hx388)
            refine o_call hF449 rfl rfl rfl rfl (rn_callv (hF449.get rfl) (args1_6 (hF449.get rfl) (hF449.get rfl) (hF449.get rfl) (hF449.get rfl) (hF449.get rfl) (hF449.get rfl)) (by kernel_rfl)) (mix_any g10 v2 k2 (4 + ((k2 + 1) % 4)) (8 + ((k2 + 2) % 4)) (12 + ((k2 + 3) % 4)) (m.getD ((((permB.drop (r * 16)).take 16).getD (8 + (2 * k2)) 0).toNat) 0) (m.getD ((((permB.drop (r * 16)).take 16).getD (9 + (2 * k2)) 0).toNat) 0) _ b450 hlv2 (by omega) (by omega) (by omega) (by omega)) ?_
            rintro _ w451 ⟨rfl, b452, hg453⟩
            refine ⟨_, rfl, ?_⟩; intro a454 hF455; clear hF449; have z456 := hg453.size
            have b457 : Blk w451 g240 67 (byteVals ((permB.drop (r * 16)).take 16)) := (b428.grownN hg453 (by omega))
            have b458 : Blk w451 g2 63 (u32Vals m) := (b429.grownN hg453 (by omega))
            refine ⟨fun _ _ => ⟨trivial, b457, b458⟩, ?_⟩
            refine any_nil (by decide +kernel) ?_
            refine hK379 _ _ ?_
            clear hK379
            have hF459 := (((((((((((((((((((((hF455.nil.cons (hF455.get (t := 16) (v := (.int .i64 (k2 : Nat))) rfl)).cons (hF455.get (t := 96) (v := (.bool (decide (((k2 : Nat) : Int) < (4 : Int))))) rfl)).cons (hF455.get (t := 95) (v := (.int .i64 (k2 : Nat))) rfl)).cons (hF455.get (t := 70) (v := (.bool (decide (((k1 : Nat) : Int) < (4 : Int))))) rfl)).cons (hF455.get (t := 69) (v := (.int .i64 (k1 : Nat))) rfl)).cons (hF455.get (t := 14) (v := (.pointer (some ⟨g240, 0, none⟩))) rfl)).cons (hF455.get (t := 67) (v := (.bool (decide (((r : Nat) : Int) < (10 : Int))))) rfl)).cons (hF455.get (t := 66) (v := (.int .i64 (r : Nat))) rfl)).cons (hF455.get (t := 65) (v := (.agg (byteVals permB).toArray)) rfl)).cons (hF455.get (t := 12) (v := (.func (.func 37) #[(.pointer (some ⟨g10, 0, none⟩))] #[])) rfl)).cons (hF455.get (t := 59) (v := (.bool last)) rfl)).cons (hF455.get (t := 21) (v := (.bool (decide (((k : Nat) : Int) < ((b.length : Nat) : Int))))) rfl)).cons (hF455.get (t := 20) (v := (.int .i64 (k : Nat))) rfl)).cons (hF455.get (t := 19) (v := (.int .i64 (b.length : Nat))) rfl)).cons (hF455.get (t := 18) (v := (.slice A b.length c)) rfl)).cons (hF455.get (t := 9) (v := (.pointer (some ⟨g10, 0, none⟩))) rfl)).cons (hF455.get (t := 8) (v := (.pointer (some ⟨g2, 0, none⟩))) rfl)).cons (hF455.get (t := 3) (v := (.bool last)) rfl)).cons (hF455.get (t := 2) (v := (.int .u64 (n.toNat : Nat))) rfl)).cons (hF455.get (t := 1) (v := (.slice A b.length c)) rfl)).cons (hF455.get (t := 0) (v := (.pointer (some ⟨g, 0, none⟩))) rfl))
            clear hF455
            refine wp_region_lit ?_
            refine wpl_op (i := 0) rfl (o_val (v := (.int .i64 (k2 + 1 : Nat))) hF459 rfl rfl rfl rfl (rn_addN (a := k2) (b := 1) (hF459.get rfl) rfl (by omega)) ?_)
            intro a460 hF461; clear hF459
            refine wpl_op (i := 1) rfl (o_val (v := (.int .i64 (k2 + 1 : Nat))) hF461 rfl rfl rfl rfl (rn_move (hF461.get rfl)) ?_)
            intro a462 hF463; clear hF461
            refine wpList_nil ?_
            obtain ⟨v464, e465⟩ : ∃ z, z = mixSeq v2 k2 (4 + ((k2 + 1) % 4)) (8 + ((k2 + 2) % 4)) (12 + ((k2 + 3) % 4)) (m.getD ((((permB.drop (r * 16)).take 16).getD (8 + (2 * k2)) 0).toNat) 0) (m.getD ((((permB.drop (r * 16)).take 16).getD (9 + (2 * k2)) 0).toNat) 0) := ⟨_, rfl⟩
            have hl466 : v464.length = 16 := (congrArg List.length e465).trans ((mixSeq_len _ _ _ _ _ _ _).trans hlv2)
            rw [← e465] at b452
            have b467 : Blk w451 g 48 (u32Vals h) := ((b364.ext hx388).grownN hg453 (by omega))
            refine ⟨⟨k2 + 1, v464, (((((((((((((((((((hF463.nil.cons (q_get hF463 (t := 95) rfl (by first | rfl | (congr 1; omega) | (congr 1; done)))).cons (q_get hF463 (t := 70) rfl rfl)).cons (q_get hF463 (t := 69) rfl rfl)).cons (q_get hF463 (t := 14) rfl rfl)).cons (q_get hF463 (t := 67) rfl rfl)).cons (q_get hF463 (t := 66) rfl rfl)).cons (q_get hF463 (t := 65) rfl rfl)).cons (q_get hF463 (t := 12) rfl rfl)).cons (q_get hF463 (t := 59) rfl rfl)).cons (q_get hF463 (t := 21) rfl rfl)).cons (q_get hF463 (t := 20) rfl rfl)).cons (q_get hF463 (t := 19) rfl rfl)).cons (q_get hF463 (t := 18) rfl rfl)).cons (q_get hF463 (t := 9) rfl rfl)).cons (q_get hF463 (t := 8) rfl rfl)).cons (q_get hF463 (t := 3) rfl rfl)).cons (q_get hF463 (t := 2) rfl rfl)).cons (q_get hF463 (t := 1) rfl rfl)).cons (q_get hF463 (t := 0) rfl rfl)), (by omega), (mixTo_step2 (by omega) (by omega) hvl hp363 e465), ((((Ext.refl w).trans hx361).trans hx388).grownN hg453 (by omega)), b467, b458, b452, b457⟩, ?_⟩
            rw [hF463.get (t := 95) rfl, hL368.get (t := 95) rfl]; simp [intOf]; omega
          · skip
            have hv8 : v2 = mixTo m (permRow r) v 8 := by rw [hp363, show 4 + k2 = 8 from by omega]
            refine wp_cond_false (c_false hF376 rfl (decide_eq_false hc378)) ?_
            refine wp_exit ?_
            refine exit_then ?_
            refine exit_then ?_
            refine exit_here ?_
            refine hK236 _ _ ?_
            clear hK236
            refine wp_region_lit ?_
            refine wpl_op (i := 0) rfl (o_val (v := (.int .i64 (r + 1 : Nat))) hF376 rfl rfl rfl rfl (rn_addN (a := r) (b := 1) (hF376.get rfl) rfl (by omega)) ?_)
            intro a468 hF469; clear hF376
            refine wpl_op (i := 1) rfl (o_val (v := (.int .i64 (r + 1 : Nat))) hF469 rfl rfl rfl rfl (rn_move (hF469.get rfl)) ?_)
            intro a470 hF471; clear hF469
            refine wpList_nil ?_
            refine ⟨⟨r + 1, v2, ((((((((((((((hF471.nil.cons (q_get hF471 (t := 66) rfl (by first | rfl | (congr 1; omega) | (congr 1; done)))).cons (q_get hF471 (t := 65) rfl rfl)).cons (q_get hF471 (t := 12) rfl rfl)).cons (q_get hF471 (t := 59) rfl rfl)).cons (q_get hF471 (t := 21) rfl rfl)).cons (q_get hF471 (t := 20) rfl rfl)).cons (q_get hF471 (t := 19) rfl rfl)).cons (q_get hF471 (t := 18) rfl rfl)).cons (q_get hF471 (t := 9) rfl rfl)).cons (q_get hF471 (t := 8) rfl rfl)).cons (q_get hF471 (t := 3) rfl rfl)).cons (q_get hF471 (t := 2) rfl rfl)).cons (q_get hF471 (t := 1) rfl rfl)).cons (q_get hF471 (t := 0) rfl rfl)), (by omega), (roundTo_step (by omega) hp222 hv8), ((Ext.refl w).trans hx361), b364, b365, b366⟩, ?_⟩
            rw [hF471.get (t := 66) rfl, hL226.get (t := 66) rfl]; simp [intOf]; omega
      · skip
        refine wp_cond_false (c_false hF233 rfl (decide_eq_false hc235)) ?_
        refine wp_exit ?_
        refine exit_then ?_
        refine exit_then ?_
        refine exit_here ?_
        refine hK206 _ _ ?_
        clear hK206
        refine wp_seq_k (fun K472 hK472 => ?_)
        refine wp_region_lit ?_
        refine wpl_op (i := 0) rfl (o_val (v := (.int .i64 0)) hF233 rfl rfl rfl rfl (rn_move rfl) ?_)
        intro a473 hF474; clear hF233
        refine wpList_nil ?_
        refine hK472 _ _ ?_
        clear hK472
        refine wp_block ?_
        have hv10 : v = roundTo (words b) (begin_ h n last) 10 := by rw [hp222, hv0, hmw, show r = 10 from by omega]
        refine wp_loop (fun a' W => ∃ (k5 : Nat) (hh2 : List UInt32), Sl 149 [(0, (.pointer (some ⟨g, 0, none⟩))), (1, (.slice A b.length c)), (2, (.int .u64 (n.toNat : Nat))), (3, (.bool last)), (8, (.pointer (some ⟨g2, 0, none⟩))), (9, (.pointer (some ⟨g10, 0, none⟩))), (18, (.slice A b.length c)), (19, (.int .i64 (b.length : Nat))), (20, (.int .i64 (k : Nat))), (21, (.bool (decide (((k : Nat) : Int) < ((b.length : Nat) : Int))))), (59, (.bool last)), (12, (.func (.func 37) #[(.pointer (some ⟨g10, 0, none⟩))] #[])), (65, (.agg (byteVals permB).toArray)), (66, (.int .i64 (r : Nat))), (67, (.bool (decide (((r : Nat) : Int) < (10 : Int))))), (129, (.int .i64 (k5 : Nat)))] a' ∧ k5 ≤ 8 ∧ hh2 = closeTo v h k5 ∧ w.grownBy W (some g) ∧ Blk W g 48 (u32Vals hh2) ∧ Blk W g10 63 (u32Vals v)) (fun a' _ => 8 - (intOf (a'.eval (.tmp 129))).toNat) ⟨0, h, ((((((((((((((((hF474.nil.cons (q_get hF474 (t := 129) rfl (by first | rfl | (congr 1; omega) | (congr 1; done)))).cons (q_get hF474 (t := 67) rfl rfl)).cons (q_get hF474 (t := 66) rfl rfl)).cons (q_get hF474 (t := 65) rfl rfl)).cons (q_get hF474 (t := 12) rfl rfl)).cons (q_get hF474 (t := 59) rfl rfl)).cons (q_get hF474 (t := 21) rfl rfl)).cons (q_get hF474 (t := 20) rfl rfl)).cons (q_get hF474 (t := 19) rfl rfl)).cons (q_get hF474 (t := 18) rfl rfl)).cons (q_get hF474 (t := 9) rfl rfl)).cons (q_get hF474 (t := 8) rfl rfl)).cons (q_get hF474 (t := 3) rfl rfl)).cons (q_get hF474 (t := 2) rfl rfl)).cons (q_get hF474 (t := 1) rfl rfl)).cons (q_get hF474 (t := 0) rfl rfl)), (by omega), rfl, (grow_ext (grow_refl w g) hx220), b223, b225⟩ ?_
        clear hF474
        rintro a475 w476 ⟨k5, hh2, hF477, hp479, hp480, hx478, b481, b482⟩
        have hL483 := hF477
        have z484 := hx478.size
        have z485 := b481.lt
        have z486 := b482.lt
        have hhl : hh2.length = 8 := by rw [hp480]; exact closeTo_len hh
        refine wp_seq_k (fun K487 hK487 => ?_)
        refine wp_region_lit ?_
        refine wpl_op (i := 0) rfl (o_val (v := (.bool (decide (((k5 : Nat) : Int) < (8 : Int))))) hF477 rfl rfl rfl rfl (rn_lss (hF477.get rfl) rfl) ?_)
        intro a488 hF489; clear hF477
        refine wpList_nil ?_
        refine hK487 _ _ ?_
        clear hK487
        refine wp_seq_k (fun K490 hK490 => ?_)
        by_cases hc491 : ((k5 : Nat) : Int) < (8 : Int)
        · skip
          refine wp_cond_true (c_true hF489 rfl (decide_eq_true hc491)) ?_
          refine wp_skip ?_
          refine hK490 _ _ ?_
          clear hK490
          refine wp_seq_k (fun K492 hK492 => ?_)
          refine wp_block ?_
          refine wp_seq_k (fun K493 hK493 => ?_)
          refine wp_region_lit ?_
          refine wpl_op (i := 0) rfl (o_val (v := (.int .i64 (k5 : Nat))) hF489 rfl rfl rfl rfl (rn_move (hF489.get rfl)) ?_)
          intro a494 hF495; clear hF489
          refine wpl_op (i := 1) rfl (o_val (v := (.int .i64 (k5 : Nat))) hF495 rfl rfl rfl rfl (rn_assign (hF495.get rfl)) ?_)
          intro a496 hF497; clear hF495
          refine wpList_nil ?_
          refine hK493 _ _ ?_
          clear hK493
          have hx499 : ∃ W, w476.drew = W ∧ Ext w476 W := ⟨_, rfl, (Ext.refl _).drew⟩
          obtain ⟨w498, e500, hx499⟩ := hx499
          have z501 := hx499.size
          refine any_start (fun W => Ext w498 W ∧ Blk W g 48 (u32Vals hh2) ∧ Blk W g10 63 (u32Vals v)) (fun i => i == 16) 17 #[false, false, false, false, false, false, false, false, false, false, false, false, false, false, false, false, false] rfl rfl rfl ?_
          rw [e500]; clear e500
          refine any_pure (i := 0) (v := (.pointer (some ⟨g, 0, none⟩))) hF497 (by decide +kernel) (by decide +kernel) rfl rfl rfl rfl (fun _ _ _ _ h => h) rfl (fun W => (rn_move (hF497.get rfl))) ?_
          intro a502 hF503; clear hF497
          refine any_pure (i := 1) (v := (.int .i64 (k5 : Nat))) hF503 (by decide +kernel) (by decide +kernel) rfl rfl rfl rfl (fun _ _ _ _ h => h) rfl (fun W => (rn_move (hF503.get rfl))) ?_
          intro a504 hF505; clear hF503
          refine any_pure (i := 2) (v := (.pointer (some ⟨g, 0, none⟩))) hF505 (by decide +kernel) (by decide +kernel) rfl rfl rfl rfl (fun _ _ _ _ h => h) rfl (fun W => (rn_nil (hF505.get rfl))) ?_
          intro a506 hF507; clear hF505
          refine any_pure (i := 3) (v := (.pointer (some ⟨g, 0 + k5, none⟩))) hF507 (by decide +kernel) (by decide +kernel) rfl rfl rfl rfl (fun _ _ _ _ h => h) rfl (fun W => (rn_indexArr Tryd.underlying48 (by kernel_rfl : (Tryd.prog.info? 47).map (·.size) = some 1) (hF507.get rfl) (hF507.get rfl) (by omega : (0 : Int) ≤ (k5 : Nat)) (by omega : ((k5 : Nat) : Int) < ((8 : Nat) : Int)))) ?_
          intro a508 hF509; clear hF507
          have b511 : Blk w498 g 48 (u32Vals hh2) := (b481.ext hx499)
          have b512 : Blk w498 g10 63 (u32Vals v) := (b482.ext hx499)
          have hS510 : Ext w498 w498 ∧ Blk w498 g 48 (u32Vals hh2) ∧ Blk w498 g10 63 (u32Vals v) := ⟨(Ext.refl w498), b511, b512⟩
          refine any_val (i := 4) (v := (.int .u32 ((hh2.getD k5 0).toNat : Nat))) hF509 (by decide +kernel) (by decide +kernel) rfl rfl rfl rfl (fun _ _ _ _ h => h) rfl hS510 (fun W hW => (rn_load (isAgg_no Tryd.underlying47 rfl) (hF509.get rfl) (blk_word hW.2.1 (by omega) (by have := (show List.length hh2 = _ from hhl); omega)))) ?_
          intro a513 hF514; clear hF509
          refine any_pure (i := 5) (v := (.int .i64 (k5 : Nat))) hF514 (by decide +kernel) (by decide +kernel) rfl rfl rfl rfl (fun _ _ _ _ h => h) rfl (fun W => (rn_move (hF514.get rfl))) ?_
          intro a515 hF516; clear hF514
          refine any_pure (i := 6) (v := (.pointer (some ⟨g10, 0 + k5, none⟩))) hF516 (by decide +kernel) (by decide +kernel) rfl rfl rfl rfl (fun _ _ _ _ h => h) rfl (fun W => (rn_indexArr Tryd.underlying63 (by kernel_rfl : (Tryd.prog.info? 47).map (·.size) = some 1) (hF516.get rfl) (hF516.get rfl) (by omega : (0 : Int) ≤ (k5 : Nat)) (by omega : ((k5 : Nat) : Int) < ((16 : Nat) : Int)))) ?_
          intro a517 hF518; clear hF516
          refine any_val (i := 7) (v := (.int .u32 ((v.getD k5 0).toNat : Nat))) hF518 (by decide +kernel) (by decide +kernel) rfl rfl rfl rfl (fun _ _ _ _ h => h) rfl hS510 (fun W hW => (rn_load (isAgg_no Tryd.underlying47 rfl) (hF518.get rfl) (blk_word hW.2.2 (by omega) (by have := (show List.length v = _ from hvl); omega)))) ?_
          intro a519 hF520; clear hF518
          refine any_pure (i := 8) (v := (.int .i64 (k5 : Nat))) hF520 (by decide +kernel) (by decide +kernel) rfl rfl rfl rfl (fun _ _ _ _ h => h) rfl (fun W => (rn_move (hF520.get rfl))) ?_
          intro a521 hF522; clear hF520
          refine any_pure (i := 9) (v := (.int .i64 (8 + k5 : Nat))) hF522 (by decide +kernel) (by decide +kernel) rfl rfl rfl rfl (fun _ _ _ _ h => h) rfl (fun W => (rn_addN (a := 8) (b := k5) rfl (hF522.get rfl) (by omega))) ?_
          intro a523 hF524; clear hF522
          refine any_pure (i := 10) (v := (.pointer (some ⟨g10, 0 + (8 + k5), none⟩))) hF524 (by decide +kernel) (by decide +kernel) rfl rfl rfl rfl (fun _ _ _ _ h => h) rfl (fun W => (rn_indexArr Tryd.underlying63 (by kernel_rfl : (Tryd.prog.info? 47).map (·.size) = some 1) (hF524.get rfl) (hF524.get rfl) (by omega : (0 : Int) ≤ (8 + k5 : Nat)) (by omega : ((8 + k5 : Nat) : Int) < ((16 : Nat) : Int)))) ?_
          intro a525 hF526; clear hF524
          refine any_val (i := 11) (v := (.int .u32 ((v.getD (8 + k5) 0).toNat : Nat))) hF526 (by decide +kernel) (by decide +kernel) rfl rfl rfl rfl (fun _ _ _ _ h => h) rfl hS510 (fun W hW => (rn_load (isAgg_no Tryd.underlying47 rfl) (hF526.get rfl) (blk_word hW.2.2 (by omega) (by have := (show List.length v = _ from hvl); omega)))) ?_
          intro a527 hF528; clear hF526
          refine any_pure (i := 12) (v := (.int .u32 (((v.getD k5 0) ^^^ (v.getD (8 + k5) 0)).toNat : Nat))) hF528 (by decide +kernel) (by decide +kernel) rfl rfl rfl rfl (fun _ _ _ _ h => h) rfl (fun W => (rn_xor32 (a := (v.getD k5 0)) (b := (v.getD (8 + k5) 0)) (hF528.get rfl) (hF528.get rfl))) ?_
          intro a529 hF530; clear hF528
          refine any_pure (i := 13) (v := (.int .u32 (((hh2.getD k5 0) ^^^ ((v.getD k5 0) ^^^ (v.getD (8 + k5) 0))).toNat : Nat))) hF530 (by decide +kernel) (by decide +kernel) rfl rfl rfl rfl (fun _ _ _ _ h => h) rfl (fun W => (rn_xor32 (a := (hh2.getD k5 0)) (b := ((v.getD k5 0) ^^^ (v.getD (8 + k5) 0))) (hF530.get rfl) (hF530.get rfl))) ?_
          intro a531 hF532; clear hF530
          refine any_pure (i := 14) (v := (.pointer (some ⟨g, 0, none⟩))) hF532 (by decide +kernel) (by decide +kernel) rfl rfl rfl rfl (fun _ _ _ _ h => h) rfl (fun W => (rn_nil (hF532.get rfl))) ?_
          intro a533 hF534; clear hF532
          refine any_pure (i := 15) (v := (.pointer (some ⟨g, 0 + k5, none⟩))) hF534 (by decide +kernel) (by decide +kernel) rfl rfl rfl rfl (fun _ _ _ _ h => h) rfl (fun W => (rn_indexArr Tryd.underlying48 (by kernel_rfl : (Tryd.prog.info? 47).map (·.size) = some 1) (hF534.get rfl) (hF534.get rfl) (by omega : (0 : Int) ≤ (k5 : Nat)) (by omega : ((k5 : Nat) : Int) < ((8 : Nat) : Int)))) ?_
          intro a535 hF536; clear hF534
          refine any_one (i := 16) (by decide +kernel) rfl ?_
          refine o_store1 (new := (u32Vals (hh2.set k5 ((hh2.getD k5 0) ^^^ ((v.getD k5 0) ^^^ (v.getD (8 + k5) 0)))))) hF536 rfl rfl rfl rfl (hF536.get rfl) (hF536.get rfl) b511 (by kernel_rfl : (Tryd.prog.info? 47).map (·.size) = some 1) (by rw [u32Vals_len hhl]; omega) rfl (u32Vals_set (by omega)) ?_
          intro w537 b538 hg539; have z540 := hg539.size
          refine ⟨fun h => absurd h (by decide), ?_⟩
          refine any_nil (by decide +kernel) ?_
          refine hK492 _ _ ?_
          clear hK492
          have hF541 := ((((((((((((((((((hF536.nil.cons (hF536.get (t := 17) (v := (.int .i64 (k5 : Nat))) rfl)).cons (hF536.get (t := 130) (v := (.bool (decide (((k5 : Nat) : Int) < (8 : Int))))) rfl)).cons (hF536.get (t := 129) (v := (.int .i64 (k5 : Nat))) rfl)).cons (hF536.get (t := 67) (v := (.bool (decide (((r : Nat) : Int) < (10 : Int))))) rfl)).cons (hF536.get (t := 66) (v := (.int .i64 (r : Nat))) rfl)).cons (hF536.get (t := 65) (v := (.agg (byteVals permB).toArray)) rfl)).cons (hF536.get (t := 12) (v := (.func (.func 37) #[(.pointer (some ⟨g10, 0, none⟩))] #[])) rfl)).cons (hF536.get (t := 59) (v := (.bool last)) rfl)).cons (hF536.get (t := 21) (v := (.bool (decide (((k : Nat) : Int) < ((b.length : Nat) : Int))))) rfl)).cons (hF536.get (t := 20) (v := (.int .i64 (k : Nat))) rfl)).cons (hF536.get (t := 19) (v := (.int .i64 (b.length : Nat))) rfl)).cons (hF536.get (t := 18) (v := (.slice A b.length c)) rfl)).cons (hF536.get (t := 9) (v := (.pointer (some ⟨g10, 0, none⟩))) rfl)).cons (hF536.get (t := 8) (v := (.pointer (some ⟨g2, 0, none⟩))) rfl)).cons (hF536.get (t := 3) (v := (.bool last)) rfl)).cons (hF536.get (t := 2) (v := (.int .u64 (n.toNat : Nat))) rfl)).cons (hF536.get (t := 1) (v := (.slice A b.length c)) rfl)).cons (hF536.get (t := 0) (v := (.pointer (some ⟨g, 0, none⟩))) rfl))
          clear hF536
          refine wp_region_lit ?_
          refine wpl_op (i := 0) rfl (o_val (v := (.int .i64 (k5 + 1 : Nat))) hF541 rfl rfl rfl rfl (rn_addN (a := k5) (b := 1) (hF541.get rfl) rfl (by omega)) ?_)
          intro a542 hF543; clear hF541
          refine wpl_op (i := 1) rfl (o_val (v := (.int .i64 (k5 + 1 : Nat))) hF543 rfl rfl rfl rfl (rn_move (hF543.get rfl)) ?_)
          intro a544 hF545; clear hF543
          refine wpList_nil ?_
          obtain ⟨v546, e547⟩ : ∃ z, z = hh2.set k5 ((hh2.getD k5 0) ^^^ ((v.getD k5 0) ^^^ (v.getD (8 + k5) 0))) := ⟨_, rfl⟩
          have hl548 : v546.length = 8 := (congrArg List.length e547).trans (show List.length (hh2.set k5 ((hh2.getD k5 0) ^^^ ((v.getD k5 0) ^^^ (v.getD (8 + k5) 0)))) = _ from List.length_set.trans hhl)
          rw [← e547] at b538
          have b549 : Blk w537 g10 63 (u32Vals v) := (b512.grownN hg539 (by omega))
          refine ⟨⟨k5 + 1, v546, ((((((((((((((((hF545.nil.cons (q_get hF545 (t := 129) rfl (by first | rfl | (congr 1; omega) | (congr 1; done)))).cons (q_get hF545 (t := 67) rfl rfl)).cons (q_get hF545 (t := 66) rfl rfl)).cons (q_get hF545 (t := 65) rfl rfl)).cons (q_get hF545 (t := 12) rfl rfl)).cons (q_get hF545 (t := 59) rfl rfl)).cons (q_get hF545 (t := 21) rfl rfl)).cons (q_get hF545 (t := 20) rfl rfl)).cons (q_get hF545 (t := 19) rfl rfl)).cons (q_get hF545 (t := 18) rfl rfl)).cons (q_get hF545 (t := 9) rfl rfl)).cons (q_get hF545 (t := 8) rfl rfl)).cons (q_get hF545 (t := 3) rfl rfl)).cons (q_get hF545 (t := 2) rfl rfl)).cons (q_get hF545 (t := 1) rfl rfl)).cons (q_get hF545 (t := 0) rfl rfl)), (by omega), (closeTo_step hp480 e547), (grow_set (grow_ext (grow_set (grow_refl w g) hx478) hx499) hg539), b538, b549⟩, ?_⟩
          rw [hF545.get (t := 129) rfl, hL483.get (t := 129) rfl]; simp [intOf]; omega
        · skip
          refine wp_cond_false (c_false hF489 rfl (decide_eq_false hc491)) ?_
          refine wp_exit ?_
          refine exit_then ?_
          refine exit_then ?_
          refine exit_here ?_
          refine ret0 hF489 rfl ?_
          have hk8 : k5 = 8 := by omega
          subst hk8
          exact ⟨rfl, (absorb_eq hv10 hp480) ▸ b481, (grow_set (grow_refl w g) hx478)⟩
    · skip
      refine wp_cond_false (c_false hF186 rfl hc187) ?_
      refine wp_skip ?_
      refine hK183 _ _ ?_
      clear hK183
      refine wp_seq_k (fun K550 hK550 => ?_)
      refine wp_region_lit ?_
      refine wpl_op (i := 0) rfl (o_val (v := (.func (.func 37) #[(.pointer (some ⟨g10, 0, none⟩))] #[])) hF186 rfl rfl rfl rfl (rn_makeFunc (args1 (hF186.get rfl)) (args0)) ?_)
      intro a551 hF552; clear hF186
      refine wpl_op (i := 1) rfl (o_val (v := (.func (.func 37) #[(.pointer (some ⟨g10, 0, none⟩))] #[])) hF552 rfl rfl rfl rfl (rn_assign (hF552.get rfl)) ?_)
      intro a553 hF554; clear hF552
      refine wpList_nil ?_
      refine hK550 _ _ ?_
      clear hK550
      refine wp_seq_k (fun K555 hK555 => ?_)
      refine wp_seq_k (fun K556 hK556 => ?_)
      refine wp_region_lit ?_
      refine wpl_op (i := 0) rfl (o_val (v := (.agg (byteVals permB).toArray)) hF554 rfl rfl rfl rfl (rn_loadN (cs := byteVals permB) rfl Tryd.underlying68 rfl ((by kernel_rfl : (Tryd.prog.info? 68).map (·.size) = some 160).trans (congrArg some (byteVals_len permB_len).symm)) (fun j v hv => (hG.ext ((((((((Ext.refl w).trans hx31).trans hx109).grownN hg124 (by omega)).trans hx131).grownN hg141 (by omega)).grownN hg160 (by omega)).grownN hg180 (by omega))).at1 j v hv)) ?_)
      intro a557 hF558; clear hF554
      refine wpl_op (i := 1) rfl (o_val (v := (.int .i64 0)) hF558 rfl rfl rfl rfl (rn_move rfl) ?_)
      intro a559 hF560; clear hF558
      refine wpList_nil ?_
      refine hK556 _ _ ?_
      clear hK556
      refine wp_block ?_
      have hmw : m = words b := words_eq hp33 (by omega)
      obtain ⟨v561, e562⟩ : ∃ z, z = ((h ++ iv).set 12 (((h ++ iv).getD 12 0) ^^^ n.toUInt32)).set 13 ((((h ++ iv).set 12 (((h ++ iv).getD 12 0) ^^^ n.toUInt32)).getD 13 0) ^^^ ((n >>> UInt64.ofNat 32).toUInt32)) := ⟨_, rfl⟩
      have hl563 : v561.length = 16 := (congrArg List.length e562).trans (show List.length (((h ++ iv).set 12 (((h ++ iv).getD 12 0) ^^^ n.toUInt32)).set 13 ((((h ++ iv).set 12 (((h ++ iv).getD 12 0) ^^^ n.toUInt32)).getD 13 0) ^^^ ((n >>> UInt64.ofNat 32).toUInt32))) = _ from List.length_set.trans (show List.length ((h ++ iv).set 12 (((h ++ iv).getD 12 0) ^^^ n.toUInt32)) = _ from List.length_set.trans (hiv_len hh)))
      rw [← e562] at b179
      have hv0 : v561 = begin_ h n last := by rw [e562, hc187]; exact begin_false
      have b564 : Blk w178 g 48 (u32Vals h) := (((((b121.grownN hg124 (by omega)).ext hx131).grownN hg141 (by omega)).grownN hg160 (by omega)).grownN hg180 (by omega))
      have b565 : Blk w178 g2 63 (u32Vals m) := ((((((b35.ext hx109).grownN hg124 (by omega)).ext hx131).grownN hg141 (by omega)).grownN hg160 (by omega)).grownN hg180 (by omega))
      refine wp_loop (fun a' W => ∃ (r : Nat) (v : List UInt32), Sl 149 [(0, (.pointer (some ⟨g, 0, none⟩))), (1, (.slice A b.length c)), (2, (.int .u64 (n.toNat : Nat))), (3, (.bool last)), (8, (.pointer (some ⟨g2, 0, none⟩))), (9, (.pointer (some ⟨g10, 0, none⟩))), (18, (.slice A b.length c)), (19, (.int .i64 (b.length : Nat))), (20, (.int .i64 (k : Nat))), (21, (.bool (decide (((k : Nat) : Int) < ((b.length : Nat) : Int))))), (59, (.bool last)), (12, (.func (.func 37) #[(.pointer (some ⟨g10, 0, none⟩))] #[])), (65, (.agg (byteVals permB).toArray)), (66, (.int .i64 (r : Nat)))] a' ∧ r ≤ 10 ∧ v = roundTo m v561 r ∧ Ext w W ∧ Blk W g 48 (u32Vals h) ∧ Blk W g2 63 (u32Vals m) ∧ Blk W g10 63 (u32Vals v)) (fun a' _ => 10 - (intOf (a'.eval (.tmp 66))).toNat) ⟨0, v561, ((((((((((((((hF560.nil.cons (q_get hF560 (t := 66) rfl (by first | rfl | (congr 1; omega) | (congr 1; done)))).cons (q_get hF560 (t := 65) rfl rfl)).cons (q_get hF560 (t := 12) rfl rfl)).cons (q_get hF560 (t := 59) rfl rfl)).cons (q_get hF560 (t := 21) rfl rfl)).cons (q_get hF560 (t := 20) rfl rfl)).cons (q_get hF560 (t := 19) rfl rfl)).cons (q_get hF560 (t := 18) rfl rfl)).cons (q_get hF560 (t := 9) rfl rfl)).cons (q_get hF560 (t := 8) rfl rfl)).cons (q_get hF560 (t := 3) rfl rfl)).cons (q_get hF560 (t := 2) rfl rfl)).cons (q_get hF560 (t := 1) rfl rfl)).cons (q_get hF560 (t := 0) rfl rfl)), (by omega), rfl, ((((((((Ext.refl w).trans hx31).trans hx109).grownN hg124 (by omega)).trans hx131).grownN hg141 (by omega)).grownN hg160 (by omega)).grownN hg180 (by omega)), b564, b565, b179⟩ ?_
      clear hF560
      rintro a566 w567 ⟨r, v, hF568, hp570, hp571, hx569, b572, b573, b574⟩
      have hL575 := hF568
      have z576 := hx569.size
      have z577 := b572.lt
      have z578 := b573.lt
      have z579 := b574.lt
      have hvl : v.length = 16 := by rw [hp571]; exact roundTo_len hl563
      refine wp_seq_k (fun K580 hK580 => ?_)
      refine wp_region_lit ?_
      refine wpl_op (i := 0) rfl (o_val (v := (.bool (decide (((r : Nat) : Int) < (10 : Int))))) hF568 rfl rfl rfl rfl (rn_lss (hF568.get rfl) rfl) ?_)
      intro a581 hF582; clear hF568
      refine wpList_nil ?_
      refine hK580 _ _ ?_
      clear hK580
      refine wp_seq_k (fun K583 hK583 => ?_)
      by_cases hc584 : ((r : Nat) : Int) < (10 : Int)
      · skip
        refine wp_cond_true (c_true hF582 rfl (decide_eq_true hc584)) ?_
        refine wp_skip ?_
        refine hK583 _ _ ?_
        clear hK583
        refine wp_seq_k (fun K585 hK585 => ?_)
        refine wp_block ?_
        refine wp_seq_k (fun K586 hK586 => ?_)
        refine wp_region_lit ?_
        refine wpl_op (i := 0) rfl (o_val (v := (.agg (byteVals ((permB.drop (r * 16)).take 16)).toArray)) hF582 rfl rfl rfl rfl ((rn_indexAA Tryd.underlying68 Tryd.underlying67 rfl (by kernel_rfl : (Tryd.prog.info? 67).map (·.size) = some 16) (hF582.get rfl) (hF582.get rfl) (by omega : (0 : Int) ≤ (r : Nat)) (by omega : ((r : Nat) : Int) < ((10 : Nat) : Int))).trans (congrArg (fun v => Result.ok (Next.value (Value.agg v)) _) (bytes_part _ _ _))) ?_)
        intro a587 hF588; clear hF582
        refine wpl_op (i := 1) rfl (o_new (fun g => (.pointer (some ⟨g, 0, none⟩))) (byteVals (List.replicate 16 0)) 67 hF588 rfl rfl rfl rfl (by kernel_rfl) ?_)
        intro g589 w590 a595 hF596 z593 z594 b591 hx592; clear hF588
        refine wpl_op (i := 2) rfl (o_store (cells := (byteVals ((permB.drop (r * 16)).take 16))) hF596 rfl rfl rfl rfl (hF596.get rfl) (hF596.get rfl) b591 ((by kernel_rfl : (Tryd.prog.info? 67).map (·.size) = some 16).trans (congrArg some (byteVals_len (len_part (i := r) (k := 16) permB_len (by omega))).symm)) ((byteVals_len (show List.length (List.replicate 16 0) = _ from List.length_replicate)).trans (byteVals_len (len_part (i := r) (k := 16) permB_len (by omega))).symm) (byteVals_one _) ?_)
        intro w597 b598 hg599; have z600 := hg599.size
        refine wpList_nil ?_
        refine hK586 _ _ ?_
        clear hK586
        refine wp_seq_k (fun K601 hK601 => ?_)
        refine wp_seq_k (fun K602 hK602 => ?_)
        refine wp_region_lit ?_
        refine wpl_op (i := 0) rfl (o_val (v := (.int .i64 0)) hF596 rfl rfl rfl rfl (rn_move rfl) ?_)
        intro a603 hF604; clear hF596
        refine wpList_nil ?_
        refine hK602 _ _ ?_
        clear hK602
        refine wp_block ?_
        have b605 : Blk w597 g 48 (u32Vals h) := ((b572.ext hx592).grownN hg599 (by omega))
        have b606 : Blk w597 g2 63 (u32Vals m) := ((b573.ext hx592).grownN hg599 (by omega))
        have b607 : Blk w597 g10 63 (u32Vals v) := ((b574.ext hx592).grownN hg599 (by omega))
        refine wp_loop (fun a' W => ∃ (k1 : Nat) (v1 : List UInt32), Sl 149 [(0, (.pointer (some ⟨g, 0, none⟩))), (1, (.slice A b.length c)), (2, (.int .u64 (n.toNat : Nat))), (3, (.bool last)), (8, (.pointer (some ⟨g2, 0, none⟩))), (9, (.pointer (some ⟨g10, 0, none⟩))), (18, (.slice A b.length c)), (19, (.int .i64 (b.length : Nat))), (20, (.int .i64 (k : Nat))), (21, (.bool (decide (((k : Nat) : Int) < ((b.length : Nat) : Int))))), (59, (.bool last)), (12, (.func (.func 37) #[(.pointer (some ⟨g10, 0, none⟩))] #[])), (65, (.agg (byteVals permB).toArray)), (66, (.int .i64 (r : Nat))), (67, (.bool (decide (((r : Nat) : Int) < (10 : Int))))), (14, (.pointer (some ⟨g589, 0, none⟩))), (69, (.int .i64 (k1 : Nat)))] a' ∧ k1 ≤ 4 ∧ v1 = mixTo m (permRow r) v (k1) ∧ Ext w W ∧ Blk W g 48 (u32Vals h) ∧ Blk W g2 63 (u32Vals m) ∧ Blk W g10 63 (u32Vals v1) ∧ Blk W g589 67 (byteVals ((permB.drop (r * 16)).take 16))) (fun a' _ => 4 - (intOf (a'.eval (.tmp 69))).toNat) ⟨0, v, (((((((((((((((((hF604.nil.cons (q_get hF604 (t := 69) rfl (by first | rfl | (congr 1; omega) | (congr 1; done)))).cons (q_get hF604 (t := 14) rfl rfl)).cons (q_get hF604 (t := 67) rfl rfl)).cons (q_get hF604 (t := 66) rfl rfl)).cons (q_get hF604 (t := 65) rfl rfl)).cons (q_get hF604 (t := 12) rfl rfl)).cons (q_get hF604 (t := 59) rfl rfl)).cons (q_get hF604 (t := 21) rfl rfl)).cons (q_get hF604 (t := 20) rfl rfl)).cons (q_get hF604 (t := 19) rfl rfl)).cons (q_get hF604 (t := 18) rfl rfl)).cons (q_get hF604 (t := 9) rfl rfl)).cons (q_get hF604 (t := 8) rfl rfl)).cons (q_get hF604 (t := 3) rfl rfl)).cons (q_get hF604 (t := 2) rfl rfl)).cons (q_get hF604 (t := 1) rfl rfl)).cons (q_get hF604 (t := 0) rfl rfl)), (by omega), rfl, ((((Ext.refl w).trans hx569).trans hx592).grownN hg599 (by omega)), b605, b606, b607, b598⟩ ?_
        clear hF604
        rintro a608 w609 ⟨k1, v1, hF610, hp612, hp613, hx611, b614, b615, b616, b617⟩
        have hL618 := hF610
        have z619 := hx611.size
        have z620 := b614.lt
        have z621 := b615.lt
        have z622 := b616.lt
        have z623 := b617.lt
        have hlv1 : v1.length = 16 := by rw [hp613]; exact mixTo_len hvl
        refine wp_seq_k (fun K624 hK624 => ?_)
        refine wp_region_lit ?_
        refine wpl_op (i := 0) rfl (o_val (v := (.bool (decide (((k1 : Nat) : Int) < (4 : Int))))) hF610 rfl rfl rfl rfl (rn_lss (hF610.get rfl) rfl) ?_)
        intro a625 hF626; clear hF610
        refine wpList_nil ?_
        refine hK624 _ _ ?_
        clear hK624
        refine wp_seq_k (fun K627 hK627 => ?_)
        by_cases hc628 : ((k1 : Nat) : Int) < (4 : Int)
        · skip
          refine wp_cond_true (c_true hF626 rfl (decide_eq_true hc628)) ?_
          refine wp_skip ?_
          refine hK627 _ _ ?_
          clear hK627
          refine wp_seq_k (fun K629 hK629 => ?_)
          refine wp_block ?_
          refine wp_seq_k (fun K630 hK630 => ?_)
          refine wp_region_lit ?_
          refine wpl_op (i := 0) rfl (o_val (v := (.int .i64 (k1 : Nat))) hF626 rfl rfl rfl rfl (rn_move (hF626.get rfl)) ?_)
          intro a631 hF632; clear hF626
          refine wpl_op (i := 1) rfl (o_val (v := (.int .i64 (k1 : Nat))) hF632 rfl rfl rfl rfl (rn_assign (hF632.get rfl)) ?_)
          intro a633 hF634; clear hF632
          refine wpList_nil ?_
          refine hK630 _ _ ?_
          clear hK630
          have z635 := perm_lt (r := r) (by omega) (j := 2 * k1) (by omega)
          have z636 := perm_lt (r := r) (by omega) (j := (2 * k1) + 1) (by omega)
          have hx638 : ∃ W, w609.drew = W ∧ Ext w609 W := ⟨_, rfl, (Ext.refl _).drew⟩
          obtain ⟨w637, e639, hx638⟩ := hx638
          have z640 := hx638.size
          refine any_start (fun W => True ∧ Blk W g589 67 (byteVals ((permB.drop (r * 16)).take 16)) ∧ Blk W g2 63 (u32Vals m)) (fun i => false) 22 #[false, false, false, false, false, false, false, false, false, false, false, false, false, false, false, false, false, false, false, false, false, false] rfl rfl rfl ?_
          rw [e639]; clear e639
          refine any_pure (i := 0) (v := (.func (.func 37) #[(.pointer (some ⟨g10, 0, none⟩))] #[])) hF634 (by decide +kernel) (by decide +kernel) rfl rfl rfl rfl (fun _ _ _ _ h => h) rfl (fun W => (rn_move (hF634.get rfl))) ?_
          intro a641 hF642; clear hF634
          refine any_pure (i := 1) (v := (.int .i64 (k1 : Nat))) hF642 (by decide +kernel) (by decide +kernel) rfl rfl rfl rfl (fun _ _ _ _ h => h) rfl (fun W => (rn_move (hF642.get rfl))) ?_
          intro a643 hF644; clear hF642
          refine any_pure (i := 2) (v := (.int .i64 (k1 : Nat))) hF644 (by decide +kernel) (by decide +kernel) rfl rfl rfl rfl (fun _ _ _ _ h => h) rfl (fun W => (rn_move (hF644.get rfl))) ?_
          intro a645 hF646; clear hF644
          refine any_pure (i := 3) (v := (.int .i64 (4 + k1 : Nat))) hF646 (by decide +kernel) (by decide +kernel) rfl rfl rfl rfl (fun _ _ _ _ h => h) rfl (fun W => (rn_addN (a := 4) (b := k1) rfl (hF646.get rfl) (by omega))) ?_
          intro a647 hF648; clear hF646
          refine any_pure (i := 4) (v := (.int .i64 (k1 : Nat))) hF648 (by decide +kernel) (by decide +kernel) rfl rfl rfl rfl (fun _ _ _ _ h => h) rfl (fun W => (rn_move (hF648.get rfl))) ?_
          intro a649 hF650; clear hF648
          refine any_pure (i := 5) (v := (.int .i64 (8 + k1 : Nat))) hF650 (by decide +kernel) (by decide +kernel) rfl rfl rfl rfl (fun _ _ _ _ h => h) rfl (fun W => (rn_addN (a := 8) (b := k1) rfl (hF650.get rfl) (by omega))) ?_
          intro a651 hF652; clear hF650
          refine any_pure (i := 6) (v := (.int .i64 (k1 : Nat))) hF652 (by decide +kernel) (by decide +kernel) rfl rfl rfl rfl (fun _ _ _ _ h => h) rfl (fun W => (rn_move (hF652.get rfl))) ?_
          intro a653 hF654; clear hF652
          refine any_pure (i := 7) (v := (.int .i64 (12 + k1 : Nat))) hF654 (by decide +kernel) (by decide +kernel) rfl rfl rfl rfl (fun _ _ _ _ h => h) rfl (fun W => (rn_addN (a := 12) (b := k1) rfl (hF654.get rfl) (by omega))) ?_
          intro a655 hF656; clear hF654
          refine any_pure (i := 8) (v := (.int .i64 (k1 : Nat))) hF656 (by decide +kernel) (by decide +kernel) rfl rfl rfl rfl (fun _ _ _ _ h => h) rfl (fun W => (rn_move (hF656.get rfl))) ?_
          intro a657 hF658; clear hF656
          refine any_pure (i := 9) (v := (.int .i64 (2 * k1 : Nat))) hF658 (by decide +kernel) (by decide +kernel) rfl rfl rfl rfl (fun _ _ _ _ h => h) rfl (fun W => (rn_mulN (a := 2) (b := k1) rfl (hF658.get rfl) (by omega))) ?_
          intro a659 hF660; clear hF658
          refine any_pure (i := 10) (v := (.pointer (some ⟨g589, 0 + (2 * k1), none⟩))) hF660 (by decide +kernel) (by decide +kernel) rfl rfl rfl rfl (fun _ _ _ _ h => h) rfl (fun W => (rn_indexArr Tryd.underlying67 (by kernel_rfl : (Tryd.prog.info? 5).map (·.size) = some 1) (hF660.get rfl) (hF660.get rfl) (by omega : (0 : Int) ≤ (2 * k1 : Nat)) (by omega : ((2 * k1 : Nat) : Int) < ((16 : Nat) : Int)))) ?_
          intro a661 hF662; clear hF660
          have b664 : Blk w637 g589 67 (byteVals ((permB.drop (r * 16)).take 16)) := (b617.ext hx638)
          have b665 : Blk w637 g2 63 (u32Vals m) := (b615.ext hx638)
          have hS663 : True ∧ Blk w637 g589 67 (byteVals ((permB.drop (r * 16)).take 16)) ∧ Blk w637 g2 63 (u32Vals m) := ⟨trivial, b664, b665⟩
          refine any_val (i := 11) (v := (.int .u8 ((((permB.drop (r * 16)).take 16).getD (2 * k1) 0).toNat : Nat))) hF662 (by decide +kernel) (by decide +kernel) rfl rfl rfl rfl (fun _ _ _ _ h => h) rfl hS663 (fun W hW => (rn_load (isAgg_no Tryd.underlying5 rfl) (hF662.get rfl) (blk_byte hW.2.1 (by omega) (by have := (show List.length ((permB.drop (r * 16)).take 16) = _ from (len_part (i := r) (k := 16) permB_len (by omega))); omega)))) ?_
          intro a666 hF667; clear hF662
          refine any_pure (i := 12) (v := (.pointer (some ⟨g2, 0 + ((((permB.drop (r * 16)).take 16).getD (2 * k1) 0).toNat), none⟩))) hF667 (by decide +kernel) (by decide +kernel) rfl rfl rfl rfl (fun _ _ _ _ h => h) rfl (fun W => (rn_indexArr Tryd.underlying63 (by kernel_rfl : (Tryd.prog.info? 47).map (·.size) = some 1) (hF667.get rfl) (hF667.get rfl) (by omega : (0 : Int) ≤ ((((permB.drop (r * 16)).take 16).getD (2 * k1) 0).toNat : Nat)) (by omega : (((((permB.drop (r * 16)).take 16).getD (2 * k1) 0).toNat : Nat) : Int) < ((16 : Nat) : Int)))) ?_
          intro a668 hF669; clear hF667
          refine any_val (i := 13) (v := (.int .u32 ((m.getD ((((permB.drop (r * 16)).take 16).getD (2 * k1) 0).toNat) 0).toNat : Nat))) hF669 (by decide +kernel) (by decide +kernel) rfl rfl rfl rfl (fun _ _ _ _ h => h) rfl hS663 (fun W hW => (rn_load (isAgg_no Tryd.underlying47 rfl) (hF669.get rfl) (blk_word hW.2.2 (by omega) (by have := (show List.length m = _ from hm); omega)))) ?_
          intro a670 hF671; clear hF669
          refine any_pure (i := 14) (v := (.int .i64 (k1 : Nat))) hF671 (by decide +kernel) (by decide +kernel) rfl rfl rfl rfl (fun _ _ _ _ h => h) rfl (fun W => (rn_move (hF671.get rfl))) ?_
          intro a672 hF673; clear hF671
          refine any_pure (i := 15) (v := (.int .i64 (2 * k1 : Nat))) hF673 (by decide +kernel) (by decide +kernel) rfl rfl rfl rfl (fun _ _ _ _ h => h) rfl (fun W => (rn_mulN (a := 2) (b := k1) rfl (hF673.get rfl) (by omega))) ?_
          intro a674 hF675; clear hF673
          refine any_pure (i := 16) (v := (.int .i64 ((2 * k1) + 1 : Nat))) hF675 (by decide +kernel) (by decide +kernel) rfl rfl rfl rfl (fun _ _ _ _ h => h) rfl (fun W => (rn_addN (a := 2 * k1) (b := 1) (hF675.get rfl) rfl (by omega))) ?_
          intro a676 hF677; clear hF675
          refine any_pure (i := 17) (v := (.pointer (some ⟨g589, 0 + ((2 * k1) + 1), none⟩))) hF677 (by decide +kernel) (by decide +kernel) rfl rfl rfl rfl (fun _ _ _ _ h => h) rfl (fun W => (rn_indexArr Tryd.underlying67 (by kernel_rfl : (Tryd.prog.info? 5).map (·.size) = some 1) (hF677.get rfl) (hF677.get rfl) (by omega : (0 : Int) ≤ ((2 * k1) + 1 : Nat)) (by omega : (((2 * k1) + 1 : Nat) : Int) < ((16 : Nat) : Int)))) ?_
          intro a678 hF679; clear hF677
          refine any_val (i := 18) (v := (.int .u8 ((((permB.drop (r * 16)).take 16).getD ((2 * k1) + 1) 0).toNat : Nat))) hF679 (by decide +kernel) (by decide +kernel) rfl rfl rfl rfl (fun _ _ _ _ h => h) rfl hS663 (fun W hW => (rn_load (isAgg_no Tryd.underlying5 rfl) (hF679.get rfl) (blk_byte hW.2.1 (by omega) (by have := (show List.length ((permB.drop (r * 16)).take 16) = _ from (len_part (i := r) (k := 16) permB_len (by omega))); omega)))) ?_
          intro a680 hF681; clear hF679
          refine any_pure (i := 19) (v := (.pointer (some ⟨g2, 0 + ((((permB.drop (r * 16)).take 16).getD ((2 * k1) + 1) 0).toNat), none⟩))) hF681 (by decide +kernel) (by decide +kernel) rfl rfl rfl rfl (fun _ _ _ _ h => h) rfl (fun W => (rn_indexArr Tryd.underlying63 (by kernel_rfl : (Tryd.prog.info? 47).map (·.size) = some 1) (hF681.get rfl) (hF681.get rfl) (by omega : (0 : Int) ≤ ((((permB.drop (r * 16)).take 16).getD ((2 * k1) + 1) 0).toNat : Nat)) (by omega : (((((permB.drop (r * 16)).take 16).getD ((2 * k1) + 1) 0).toNat : Nat) : Int) < ((16 : Nat) : Int)))) ?_
          intro a682 hF683; clear hF681
          refine any_val (i := 20) (v := (.int .u32 ((m.getD ((((permB.drop (r * 16)).take 16).getD ((2 * k1) + 1) 0).toNat) 0).toNat : Nat))) hF683 (by decide +kernel) (by decide +kernel) rfl rfl rfl rfl (fun _ _ _ _ h => h) rfl hS663 (fun W hW => (rn_load (isAgg_no Tryd.underlying47 rfl) (hF683.get rfl) (blk_word hW.2.2 (by omega) (by have := (show List.length m = _ from hm); omega)))) ?_
          intro a684 hF685; clear hF683
          refine any_one (i := 21) (by decide +kernel) rfl ?_
          have b686 : Blk w637 g10 63 (u32Vals v1) := (b616.ext hx638)
          refine o_call hF685 rfl rfl rfl rfl (rn_callv (hF685.get rfl) (args1_6 (hF685.get rfl) (hF685.get rfl) (hF685.get rfl) (hF685.get rfl) (hF685.get rfl) (hF685.get rfl)) (by kernel_rfl)) (mix_any g10 v1 k1 (4 + k1) (8 + k1) (12 + k1) (m.getD ((((permB.drop (r * 16)).take 16).getD (2 * k1) 0).toNat) 0) (m.getD ((((permB.drop (r * 16)).take 16).getD ((2 * k1) + 1) 0).toNat) 0) _ b686 hlv1 (by omega) (by omega) (by omega) (by omega)) ?_
          rintro _ w687 ⟨rfl, b688, hg689⟩
          refine ⟨_, rfl, ?_⟩; intro a690 hF691; clear hF685; have z692 := hg689.size
          have b693 : Blk w687 g589 67 (byteVals ((permB.drop (r * 16)).take 16)) := (b664.grownN hg689 (by omega))
          have b694 : Blk w687 g2 63 (u32Vals m) := (b665.grownN hg689 (by omega))
          refine ⟨fun _ _ => ⟨trivial, b693, b694⟩, ?_⟩
          refine any_nil (by decide +kernel) ?_
          refine hK629 _ _ ?_
          clear hK629
          have hF695 := (((((((((((((((((((hF691.nil.cons (hF691.get (t := 15) (v := (.int .i64 (k1 : Nat))) rfl)).cons (hF691.get (t := 70) (v := (.bool (decide (((k1 : Nat) : Int) < (4 : Int))))) rfl)).cons (hF691.get (t := 69) (v := (.int .i64 (k1 : Nat))) rfl)).cons (hF691.get (t := 14) (v := (.pointer (some ⟨g589, 0, none⟩))) rfl)).cons (hF691.get (t := 67) (v := (.bool (decide (((r : Nat) : Int) < (10 : Int))))) rfl)).cons (hF691.get (t := 66) (v := (.int .i64 (r : Nat))) rfl)).cons (hF691.get (t := 65) (v := (.agg (byteVals permB).toArray)) rfl)).cons (hF691.get (t := 12) (v := (.func (.func 37) #[(.pointer (some ⟨g10, 0, none⟩))] #[])) rfl)).cons (hF691.get (t := 59) (v := (.bool last)) rfl)).cons (hF691.get (t := 21) (v := (.bool (decide (((k : Nat) : Int) < ((b.length : Nat) : Int))))) rfl)).cons (hF691.get (t := 20) (v := (.int .i64 (k : Nat))) rfl)).cons (hF691.get (t := 19) (v := (.int .i64 (b.length : Nat))) rfl)).cons (hF691.get (t := 18) (v := (.slice A b.length c)) rfl)).cons (hF691.get (t := 9) (v := (.pointer (some ⟨g10, 0, none⟩))) rfl)).cons (hF691.get (t := 8) (v := (.pointer (some ⟨g2, 0, none⟩))) rfl)).cons (hF691.get (t := 3) (v := (.bool last)) rfl)).cons (hF691.get (t := 2) (v := (.int .u64 (n.toNat : Nat))) rfl)).cons (hF691.get (t := 1) (v := (.slice A b.length c)) rfl)).cons (hF691.get (t := 0) (v := (.pointer (some ⟨g, 0, none⟩))) rfl))
          clear hF691
          refine wp_region_lit ?_
          refine wpl_op (i := 0) rfl (o_val (v := (.int .i64 (k1 + 1 : Nat))) hF695 rfl rfl rfl rfl (rn_addN (a := k1) (b := 1) (hF695.get rfl) rfl (by omega)) ?_)
          intro a696 hF697; clear hF695
          refine wpl_op (i := 1) rfl (o_val (v := (.int .i64 (k1 + 1 : Nat))) hF697 rfl rfl rfl rfl (rn_move (hF697.get rfl)) ?_)
          intro a698 hF699; clear hF697
          refine wpList_nil ?_
          obtain ⟨v700, e701⟩ : ∃ z, z = mixSeq v1 k1 (4 + k1) (8 + k1) (12 + k1) (m.getD ((((permB.drop (r * 16)).take 16).getD (2 * k1) 0).toNat) 0) (m.getD ((((permB.drop (r * 16)).take 16).getD ((2 * k1) + 1) 0).toNat) 0) := ⟨_, rfl⟩
          have hl702 : v700.length = 16 := (congrArg List.length e701).trans ((mixSeq_len _ _ _ _ _ _ _).trans hlv1)
          rw [← e701] at b688
          have b703 : Blk w687 g 48 (u32Vals h) := ((b614.ext hx638).grownN hg689 (by omega))
          refine ⟨⟨k1 + 1, v700, (((((((((((((((((hF699.nil.cons (q_get hF699 (t := 69) rfl (by first | rfl | (congr 1; omega) | (congr 1; done)))).cons (q_get hF699 (t := 14) rfl rfl)).cons (q_get hF699 (t := 67) rfl rfl)).cons (q_get hF699 (t := 66) rfl rfl)).cons (q_get hF699 (t := 65) rfl rfl)).cons (q_get hF699 (t := 12) rfl rfl)).cons (q_get hF699 (t := 59) rfl rfl)).cons (q_get hF699 (t := 21) rfl rfl)).cons (q_get hF699 (t := 20) rfl rfl)).cons (q_get hF699 (t := 19) rfl rfl)).cons (q_get hF699 (t := 18) rfl rfl)).cons (q_get hF699 (t := 9) rfl rfl)).cons (q_get hF699 (t := 8) rfl rfl)).cons (q_get hF699 (t := 3) rfl rfl)).cons (q_get hF699 (t := 2) rfl rfl)).cons (q_get hF699 (t := 1) rfl rfl)).cons (q_get hF699 (t := 0) rfl rfl)), (by omega), (mixTo_step1 (by omega) (by omega) hvl hp613 e701), ((((Ext.refl w).trans hx611).trans hx638).grownN hg689 (by omega)), b703, b694, b688, b693⟩, ?_⟩
          rw [hF699.get (t := 69) rfl, hL618.get (t := 69) rfl]; simp [intOf]; omega
        · skip
          refine wp_cond_false (c_false hF626 rfl (decide_eq_false hc628)) ?_
          refine wp_exit ?_
          refine exit_then ?_
          refine exit_then ?_
          refine exit_here ?_
          refine hK601 _ _ ?_
          clear hK601
          refine wp_seq_k (fun K704 hK704 => ?_)
          refine wp_region_lit ?_
          refine wpl_op (i := 0) rfl (o_val (v := (.int .i64 0)) hF626 rfl rfl rfl rfl (rn_move rfl) ?_)
          intro a705 hF706; clear hF626
          refine wpList_nil ?_
          refine hK704 _ _ ?_
          clear hK704
          refine wp_block ?_
          have hi4 : v1 = mixTo m (permRow r) v (4 + 0) := by rw [hp613, show k1 = 4 + 0 from by omega]
          refine wp_loop (fun a' W => ∃ (k2 : Nat) (v2 : List UInt32), Sl 149 [(0, (.pointer (some ⟨g, 0, none⟩))), (1, (.slice A b.length c)), (2, (.int .u64 (n.toNat : Nat))), (3, (.bool last)), (8, (.pointer (some ⟨g2, 0, none⟩))), (9, (.pointer (some ⟨g10, 0, none⟩))), (18, (.slice A b.length c)), (19, (.int .i64 (b.length : Nat))), (20, (.int .i64 (k : Nat))), (21, (.bool (decide (((k : Nat) : Int) < ((b.length : Nat) : Int))))), (59, (.bool last)), (12, (.func (.func 37) #[(.pointer (some ⟨g10, 0, none⟩))] #[])), (65, (.agg (byteVals permB).toArray)), (66, (.int .i64 (r : Nat))), (67, (.bool (decide (((r : Nat) : Int) < (10 : Int))))), (14, (.pointer (some ⟨g589, 0, none⟩))), (69, (.int .i64 (k1 : Nat))), (70, (.bool (decide (((k1 : Nat) : Int) < (4 : Int))))), (95, (.int .i64 (k2 : Nat)))] a' ∧ k2 ≤ 4 ∧ v2 = mixTo m (permRow r) v (4 + k2) ∧ Ext w W ∧ Blk W g 48 (u32Vals h) ∧ Blk W g2 63 (u32Vals m) ∧ Blk W g10 63 (u32Vals v2) ∧ Blk W g589 67 (byteVals ((permB.drop (r * 16)).take 16))) (fun a' _ => 4 - (intOf (a'.eval (.tmp 95))).toNat) ⟨0, v1, (((((((((((((((((((hF706.nil.cons (q_get hF706 (t := 95) rfl (by first | rfl | (congr 1; omega) | (congr 1; done)))).cons (q_get hF706 (t := 70) rfl rfl)).cons (q_get hF706 (t := 69) rfl rfl)).cons (q_get hF706 (t := 14) rfl rfl)).cons (q_get hF706 (t := 67) rfl rfl)).cons (q_get hF706 (t := 66) rfl rfl)).cons (q_get hF706 (t := 65) rfl rfl)).cons (q_get hF706 (t := 12) rfl rfl)).cons (q_get hF706 (t := 59) rfl rfl)).cons (q_get hF706 (t := 21) rfl rfl)).cons (q_get hF706 (t := 20) rfl rfl)).cons (q_get hF706 (t := 19) rfl rfl)).cons (q_get hF706 (t := 18) rfl rfl)).cons (q_get hF706 (t := 9) rfl rfl)).cons (q_get hF706 (t := 8) rfl rfl)).cons (q_get hF706 (t := 3) rfl rfl)).cons (q_get hF706 (t := 2) rfl rfl)).cons (q_get hF706 (t := 1) rfl rfl)).cons (q_get hF706 (t := 0) rfl rfl)), (by omega), hi4, ((Ext.refl w).trans hx611), b614, b615, b616, b617⟩ ?_
          clear hF706
          rintro a707 w708 ⟨k2, v2, hF709, hp711, hp712, hx710, b713, b714, b715, b716⟩
          have hL717 := hF709
          have z718 := hx710.size
          have z719 := b713.lt
          have z720 := b714.lt
          have z721 := b715.lt
          have z722 := b716.lt
          have hlv2 : v2.length = 16 := by rw [hp712]; exact mixTo_len hvl
          refine wp_seq_k (fun K723 hK723 => ?_)
          refine wp_region_lit ?_
          refine wpl_op (i := 0) rfl (o_val (v := (.bool (decide (((k2 : Nat) : Int) < (4 : Int))))) hF709 rfl rfl rfl rfl (rn_lss (hF709.get rfl) rfl) ?_)
          intro a724 hF725; clear hF709
          refine wpList_nil ?_
          refine hK723 _ _ ?_
          clear hK723
          refine wp_seq_k (fun K726 hK726 => ?_)
          by_cases hc727 : ((k2 : Nat) : Int) < (4 : Int)
          · skip
            refine wp_cond_true (c_true hF725 rfl (decide_eq_true hc727)) ?_
            refine wp_skip ?_
            refine hK726 _ _ ?_
            clear hK726
            refine wp_seq_k (fun K728 hK728 => ?_)
            refine wp_block ?_
            refine wp_seq_k (fun K729 hK729 => ?_)
            refine wp_region_lit ?_
            refine wpl_op (i := 0) rfl (o_val (v := (.int .i64 (k2 : Nat))) hF725 rfl rfl rfl rfl (rn_move (hF725.get rfl)) ?_)
            intro a730 hF731; clear hF725
            refine wpl_op (i := 1) rfl (o_val (v := (.int .i64 (k2 : Nat))) hF731 rfl rfl rfl rfl (rn_assign (hF731.get rfl)) ?_)
            intro a732 hF733; clear hF731
            refine wpList_nil ?_
            refine hK729 _ _ ?_
            clear hK729
            have z734 := perm_lt (r := r) (by omega) (j := 8 + (2 * k2)) (by omega)
            have z735 := perm_lt (r := r) (by omega) (j := 9 + (2 * k2)) (by omega)
            have hx737 : ∃ W, w708.drew = W ∧ Ext w708 W := ⟨_, rfl, (Ext.refl _).drew⟩
            obtain ⟨w736, e738, hx737⟩ := hx737
            have z739 := hx737.size
            refine any_start (fun W => True ∧ Blk W g589 67 (byteVals ((permB.drop (r * 16)).take 16)) ∧ Blk W g2 63 (u32Vals m)) (fun i => false) 29 #[false, false, false, false, false, false, false, false, false, false, false, false, false, false, false, false, false, false, false, false, false, false, false, false, false, false, false, false, false] rfl rfl rfl ?_
            rw [e738]; clear e738
            refine any_pure (i := 0) (v := (.func (.func 37) #[(.pointer (some ⟨g10, 0, none⟩))] #[])) hF733 (by decide +kernel) (by decide +kernel) rfl rfl rfl rfl (fun _ _ _ _ h => h) rfl (fun W => (rn_move (hF733.get rfl))) ?_
            intro a740 hF741; clear hF733
            refine any_pure (i := 1) (v := (.int .i64 (k2 : Nat))) hF741 (by decide +kernel) (by decide +kernel) rfl rfl rfl rfl (fun _ _ _ _ h => h) rfl (fun W => (rn_move (hF741.get rfl))) ?_
            intro a742 hF743; clear hF741
            refine any_pure (i := 2) (v := (.int .i64 (k2 : Nat))) hF743 (by decide +kernel) (by decide +kernel) rfl rfl rfl rfl (fun _ _ _ _ h => h) rfl (fun W => (rn_move (hF743.get rfl))) ?_
            intro a744 hF745; clear hF743
            refine any_pure (i := 3) (v := (.int .i64 (k2 + 1 : Nat))) hF745 (by decide +kernel) (by decide +kernel) rfl rfl rfl rfl (fun _ _ _ _ h => h) rfl (fun W => (rn_addN (a := k2) (b := 1) (hF745.get rfl) rfl (by omega))) ?_
            intro a746 hF747; clear hF745
            refine any_pure (i := 4) (v := (.int .i64 ((k2 + 1) % 4 : Nat))) hF747 (by decide +kernel) (by decide +kernel) rfl rfl rfl rfl (fun _ _ _ _ h => h) rfl (fun W => (rn_remN (a := k2 + 1) (b := 4) (hF747.get rfl) rfl (by omega))) ?_
            intro a748 hF749; clear hF747
            refine any_pure (i := 5) (v := (.int .i64 (4 + ((k2 + 1) % 4) : Nat))) hF749 (by decide +kernel) (by decide +kernel) rfl rfl rfl rfl (fun _ _ _ _ h => h) rfl (fun W => (rn_addN (a := 4) (b := (k2 + 1) % 4) rfl (hF749.get rfl) (by omega))) ?_
            intro a750 hF751; clear hF749
            refine any_pure (i := 6) (v := (.int .i64 (k2 : Nat))) hF751 (by decide +kernel) (by decide +kernel) rfl rfl rfl rfl (fun _ _ _ _ h => h) rfl (fun W => (rn_move (hF751.get rfl))) ?_
            intro a752 hF753; clear hF751
            refine any_pure (i := 7) (v := (.int .i64 (k2 + 2 : Nat))) hF753 (by decide +kernel) (by decide +kernel) rfl rfl rfl rfl (fun _ _ _ _ h => h) rfl (fun W => (rn_addN (a := k2) (b := 2) (hF753.get rfl) rfl (by omega))) ?_
            intro a754 hF755; clear hF753
            refine any_pure (i := 8) (v := (.int .i64 ((k2 + 2) % 4 : Nat))) hF755 (by decide +kernel) (by decide +kernel) rfl rfl rfl rfl (fun _ _ _ _ h => h) rfl (fun W => (rn_remN (a := k2 + 2) (b := 4) (hF755.get rfl) rfl (by omega))) ?_
            intro a756 hF757; clear hF755
            refine any_pure (i := 9) (v := (.int .i64 (8 + ((k2 + 2) % 4) : Nat))) hF757 (by decide +kernel) (by decide +kernel) rfl rfl rfl rfl (fun _ _ _ _ h => h) rfl (fun W => (rn_addN (a := 8) (b := (k2 + 2) % 4) rfl (hF757.get rfl) (by omega))) ?_
            intro a758 hF759; clear hF757
            refine any_pure (i := 10) (v := (.int .i64 (k2 : Nat))) hF759 (by decide +kernel) (by decide +kernel) rfl rfl rfl rfl (fun _ _ _ _ h => h) rfl (fun W => (rn_move (hF759.get rfl))) ?_
            intro a760 hF761; clear hF759
            refine any_pure (i := 11) (v := (.int .i64 (k2 + 3 : Nat))) hF761 (by decide +kernel) (by decide +kernel) rfl rfl rfl rfl (fun _ _ _ _ h => h) rfl (fun W => (rn_addN (a := k2) (b := 3) (hF761.get rfl) rfl (by omega))) ?_
            intro a762 hF763; clear hF761
            refine any_pure (i := 12) (v := (.int .i64 ((k2 + 3) % 4 : Nat))) hF763 (by decide +kernel) (by decide +kernel) rfl rfl rfl rfl (fun _ _ _ _ h => h) rfl (fun W => (rn_remN (a := k2 + 3) (b := 4) (hF763.get rfl) rfl (by omega))) ?_
            intro a764 hF765; clear hF763
            refine any_pure (i := 13) (v := (.int .i64 (12 + ((k2 + 3) % 4) : Nat))) hF765 (by decide +kernel) (by decide +kernel) rfl rfl rfl rfl (fun _ _ _ _ h => h) rfl (fun W => (rn_addN (a := 12) (b := (k2 + 3) % 4) rfl (hF765.get rfl) (by omega))) ?_
            intro a766 hF767; clear hF765
            refine any_pure (i := 14) (v := (.int .i64 (k2 : Nat))) hF767 (by decide +kernel) (by decide +kernel) rfl rfl rfl rfl (fun _ _ _ _ h => h) rfl (fun W => (rn_move (hF767.get rfl))) ?_
            intro a768 hF769; clear hF767
            refine any_pure (i := 15) (v := (.int .i64 (2 * k2 : Nat))) hF769 (by decide +kernel) (by decide +kernel) rfl rfl rfl rfl (fun _ _ _ _ h => h) rfl (fun W => (rn_mulN (a := 2) (b := k2) rfl (hF769.get rfl) (by omega))) ?_
            intro a770 hF771; clear hF769
            refine any_pure (i := 16) (v := (.int .i64 (8 + (2 * k2) : Nat))) hF771 (by decide +kernel) (by decide +kernel) rfl rfl rfl rfl (fun _ _ _ _ h => h) rfl (fun W => (rn_addN (a := 8) (b := 2 * k2) rfl (hF771.get rfl) (by omega))) ?_
            intro a772 hF773; clear hF771
            refine any_pure (i := 17) (v := (.pointer (some ⟨g589, 0 + (8 + (2 * k2)), none⟩))) hF773 (by decide +kernel) (by decide +kernel) rfl rfl rfl rfl (fun _ _ _ _ h => h) rfl (fun W => (rn_indexArr Tryd.underlying67 (by kernel_rfl : (Tryd.prog.info? 5).map (·.size) = some 1) (hF773.get rfl) (hF773.get rfl) (by omega : (0 : Int) ≤ (8 + (2 * k2) : Nat)) (by omega : ((8 + (2 * k2) : Nat) : Int) < ((16 : Nat) : Int)))) ?_
            intro a774 hF775; clear hF773
            have b777 : Blk w736 g589 67 (byteVals ((permB.drop (r * 16)).take 16)) := (b716.ext hx737)
            have b778 : Blk w736 g2 63 (u32Vals m) := (b714.ext hx737)
            have hS776 : True ∧ Blk w736 g589 67 (byteVals ((permB.drop (r * 16)).take 16)) ∧ Blk w736 g2 63 (u32Vals m) := ⟨trivial, b777, b778⟩
            refine any_val (i := 18) (v := (.int .u8 ((((permB.drop (r * 16)).take 16).getD (8 + (2 * k2)) 0).toNat : Nat))) hF775 (by decide +kernel) (by decide +kernel) rfl rfl rfl rfl (fun _ _ _ _ h => h) rfl hS776 (fun W hW => (rn_load (isAgg_no Tryd.underlying5 rfl) (hF775.get rfl) (blk_byte hW.2.1 (by omega) (by have := (show List.length ((permB.drop (r * 16)).take 16) = _ from (len_part (i := r) (k := 16) permB_len (by omega))); omega)))) ?_
            intro a779 hF780; clear hF775
            refine any_pure (i := 19) (v := (.pointer (some ⟨g2, 0 + ((((permB.drop (r * 16)).take 16).getD (8 + (2 * k2)) 0).toNat), none⟩))) hF780 (by decide +kernel) (by decide +kernel) rfl rfl rfl rfl (fun _ _ _ _ h => h) rfl (fun W => (rn_indexArr Tryd.underlying63 (by kernel_rfl : (Tryd.prog.info? 47).map (·.size) = some 1) (hF780.get rfl) (hF780.get rfl) (by omega : (0 : Int) ≤ ((((permB.drop (r * 16)).take 16).getD (8 + (2 * k2)) 0).toNat : Nat)) (by omega : (((((permB.drop (r * 16)).take 16).getD (8 + (2 * k2)) 0).toNat : Nat) : Int) < ((16 : Nat) : Int)))) ?_
            intro a781 hF782; clear hF780
            refine any_val (i := 20) (v := (.int .u32 ((m.getD ((((permB.drop (r * 16)).take 16).getD (8 + (2 * k2)) 0).toNat) 0).toNat : Nat))) hF782 (by decide +kernel) (by decide +kernel) rfl rfl rfl rfl (fun _ _ _ _ h => h) rfl hS776 (fun W hW => (rn_load (isAgg_no Tryd.underlying47 rfl) (hF782.get rfl) (blk_word hW.2.2 (by omega) (by have := (show List.length m = _ from hm); omega)))) ?_
            intro a783 hF784; clear hF782
            refine any_pure (i := 21) (v := (.int .i64 (k2 : Nat))) hF784 (by decide +kernel) (by decide +kernel) rfl rfl rfl rfl (fun _ _ _ _ h => h) rfl (fun W => (rn_move (hF784.get rfl))) ?_
            intro a785 hF786; clear hF784
            refine any_pure (i := 22) (v := (.int .i64 (2 * k2 : Nat))) hF786 (by decide +kernel) (by decide +kernel) rfl rfl rfl rfl (fun _ _ _ _ h => h) rfl (fun W => (rn_mulN (a := 2) (b := k2) rfl (hF786.get rfl) (by omega))) ?_
            intro a787 hF788; clear hF786
            refine any_pure (i := 23) (v := (.int .i64 (9 + (2 * k2) : Nat))) hF788 (by decide +kernel) (by decide +kernel) rfl rfl rfl rfl (fun _ _ _ _ h => h) rfl (fun W => (rn_addN (a := 9) (b := 2 * k2) rfl (hF788.get rfl) (by omega))) ?_
            intro a789 hF790; clear hF788
            refine any_pure (i := 24) (v := (.pointer (some ⟨g589, 0 + (9 + (2 * k2)), none⟩))) hF790 (by decide +kernel) (by decide +kernel) rfl rfl rfl rfl (fun _ _ _ _ h => h) rfl (fun W => (rn_indexArr Tryd.underlying67 (by kernel_rfl : (Tryd.prog.info? 5).map (·.size) = some 1) (hF790.get rfl) (hF790.get rfl) (by omega : (0 : Int) ≤ (9 + (2 * k2) : Nat)) (by omega : ((9 + (2 * k2) : Nat) : Int) < ((16 : Nat) : Int)))) ?_
            intro a791 hF792; clear hF790
            refine any_val (i := 25) (v := (.int .u8 ((((permB.drop (r * 16)).take 16).getD (9 + (2 * k2)) 0).toNat : Nat))) hF792 (by decide +kernel) (by decide +kernel) rfl rfl rfl rfl (fun _ _ _ _ h => h) rfl hS776 (fun W hW => (rn_load (isAgg_no Tryd.underlying5 rfl) (hF792.get rfl) (blk_byte hW.2.1 (by omega) (by have := (show List.length ((permB.drop (r * 16)).take 16) = _ from (len_part (i := r) (k := 16) permB_len (by omega))); omega)))) ?_
            intro a793 hF794; clear hF792
            refine any_pure (i := 26) (v := (.pointer (some ⟨g2, 0 + ((((permB.drop (r * 16)).take 16).getD (9 + (2 * k2)) 0).toNat), none⟩))) hF794 (by decide +kernel) (by decide +kernel) rfl rfl rfl rfl (fun _ _ _ _ h => h) rfl (fun W => (rn_indexArr Tryd.underlying63 (by kernel_rfl : (Tryd.prog.info? 47).map (·.size) = some 1) (hF794.get rfl) (hF794.get rfl) (by omega : (0 : Int) ≤ ((((permB.drop (r * 16)).take 16).getD (9 + (2 * k2)) 0).toNat : Nat)) (by omega : (((((permB.drop (r * 16)).take 16).getD (9 + (2 * k2)) 0).toNat : Nat) : Int) < ((16 : Nat) : Int)))) ?_
            intro a795 hF796; clear hF794
            refine any_val (i := 27) (v := (.int .u32 ((m.getD ((((permB.drop (r * 16)).take 16).getD (9 + (2 * k2)) 0).toNat) 0).toNat : Nat))) hF796 (by decide +kernel) (by decide +kernel) rfl rfl rfl rfl (fun _ _ _ _ h => h) rfl hS776 (fun W hW => (rn_load (isAgg_no Tryd.underlying47 rfl) (hF796.get rfl) (blk_word hW.2.2 (by omega) (by have := (show List.length m = _ from hm); omega)))) ?_
            intro a797 hF798; clear hF796
            refine any_one (i := 28) (by decide +kernel) rfl ?_
            have b799 : Blk w736 g10 63 (u32Vals v2) := (b715.ext hx737)
            refine o_call hF798 rfl rfl rfl rfl (rn_callv (hF798.get rfl) (args1_6 (hF798.get rfl) (hF798.get rfl) (hF798.get rfl) (hF798.get rfl) (hF798.get rfl) (hF798.get rfl)) (by kernel_rfl)) (mix_any g10 v2 k2 (4 + ((k2 + 1) % 4)) (8 + ((k2 + 2) % 4)) (12 + ((k2 + 3) % 4)) (m.getD ((((permB.drop (r * 16)).take 16).getD (8 + (2 * k2)) 0).toNat) 0) (m.getD ((((permB.drop (r * 16)).take 16).getD (9 + (2 * k2)) 0).toNat) 0) _ b799 hlv2 (by omega) (by omega) (by omega) (by omega)) ?_
            rintro _ w800 ⟨rfl, b801, hg802⟩
            refine ⟨_, rfl, ?_⟩; intro a803 hF804; clear hF798; have z805 := hg802.size
            have b806 : Blk w800 g589 67 (byteVals ((permB.drop (r * 16)).take 16)) := (b777.grownN hg802 (by omega))
            have b807 : Blk w800 g2 63 (u32Vals m) := (b778.grownN hg802 (by omega))
            refine ⟨fun _ _ => ⟨trivial, b806, b807⟩, ?_⟩
            refine any_nil (by decide +kernel) ?_
            refine hK728 _ _ ?_
            clear hK728
            have hF808 := (((((((((((((((((((((hF804.nil.cons (hF804.get (t := 16) (v := (.int .i64 (k2 : Nat))) rfl)).cons (hF804.get (t := 96) (v := (.bool (decide (((k2 : Nat) : Int) < (4 : Int))))) rfl)).cons (hF804.get (t := 95) (v := (.int .i64 (k2 : Nat))) rfl)).cons (hF804.get (t := 70) (v := (.bool (decide (((k1 : Nat) : Int) < (4 : Int))))) rfl)).cons (hF804.get (t := 69) (v := (.int .i64 (k1 : Nat))) rfl)).cons (hF804.get (t := 14) (v := (.pointer (some ⟨g589, 0, none⟩))) rfl)).cons (hF804.get (t := 67) (v := (.bool (decide (((r : Nat) : Int) < (10 : Int))))) rfl)).cons (hF804.get (t := 66) (v := (.int .i64 (r : Nat))) rfl)).cons (hF804.get (t := 65) (v := (.agg (byteVals permB).toArray)) rfl)).cons (hF804.get (t := 12) (v := (.func (.func 37) #[(.pointer (some ⟨g10, 0, none⟩))] #[])) rfl)).cons (hF804.get (t := 59) (v := (.bool last)) rfl)).cons (hF804.get (t := 21) (v := (.bool (decide (((k : Nat) : Int) < ((b.length : Nat) : Int))))) rfl)).cons (hF804.get (t := 20) (v := (.int .i64 (k : Nat))) rfl)).cons (hF804.get (t := 19) (v := (.int .i64 (b.length : Nat))) rfl)).cons (hF804.get (t := 18) (v := (.slice A b.length c)) rfl)).cons (hF804.get (t := 9) (v := (.pointer (some ⟨g10, 0, none⟩))) rfl)).cons (hF804.get (t := 8) (v := (.pointer (some ⟨g2, 0, none⟩))) rfl)).cons (hF804.get (t := 3) (v := (.bool last)) rfl)).cons (hF804.get (t := 2) (v := (.int .u64 (n.toNat : Nat))) rfl)).cons (hF804.get (t := 1) (v := (.slice A b.length c)) rfl)).cons (hF804.get (t := 0) (v := (.pointer (some ⟨g, 0, none⟩))) rfl))
            clear hF804
            refine wp_region_lit ?_
            refine wpl_op (i := 0) rfl (o_val (v := (.int .i64 (k2 + 1 : Nat))) hF808 rfl rfl rfl rfl (rn_addN (a := k2) (b := 1) (hF808.get rfl) rfl (by omega)) ?_)
            intro a809 hF810; clear hF808
            refine wpl_op (i := 1) rfl (o_val (v := (.int .i64 (k2 + 1 : Nat))) hF810 rfl rfl rfl rfl (rn_move (hF810.get rfl)) ?_)
            intro a811 hF812; clear hF810
            refine wpList_nil ?_
            obtain ⟨v813, e814⟩ : ∃ z, z = mixSeq v2 k2 (4 + ((k2 + 1) % 4)) (8 + ((k2 + 2) % 4)) (12 + ((k2 + 3) % 4)) (m.getD ((((permB.drop (r * 16)).take 16).getD (8 + (2 * k2)) 0).toNat) 0) (m.getD ((((permB.drop (r * 16)).take 16).getD (9 + (2 * k2)) 0).toNat) 0) := ⟨_, rfl⟩
            have hl815 : v813.length = 16 := (congrArg List.length e814).trans ((mixSeq_len _ _ _ _ _ _ _).trans hlv2)
            rw [← e814] at b801
            have b816 : Blk w800 g 48 (u32Vals h) := ((b713.ext hx737).grownN hg802 (by omega))
            refine ⟨⟨k2 + 1, v813, (((((((((((((((((((hF812.nil.cons (q_get hF812 (t := 95) rfl (by first | rfl | (congr 1; omega) | (congr 1; done)))).cons (q_get hF812 (t := 70) rfl rfl)).cons (q_get hF812 (t := 69) rfl rfl)).cons (q_get hF812 (t := 14) rfl rfl)).cons (q_get hF812 (t := 67) rfl rfl)).cons (q_get hF812 (t := 66) rfl rfl)).cons (q_get hF812 (t := 65) rfl rfl)).cons (q_get hF812 (t := 12) rfl rfl)).cons (q_get hF812 (t := 59) rfl rfl)).cons (q_get hF812 (t := 21) rfl rfl)).cons (q_get hF812 (t := 20) rfl rfl)).cons (q_get hF812 (t := 19) rfl rfl)).cons (q_get hF812 (t := 18) rfl rfl)).cons (q_get hF812 (t := 9) rfl rfl)).cons (q_get hF812 (t := 8) rfl rfl)).cons (q_get hF812 (t := 3) rfl rfl)).cons (q_get hF812 (t := 2) rfl rfl)).cons (q_get hF812 (t := 1) rfl rfl)).cons (q_get hF812 (t := 0) rfl rfl)), (by omega), (mixTo_step2 (by omega) (by omega) hvl hp712 e814), ((((Ext.refl w).trans hx710).trans hx737).grownN hg802 (by omega)), b816, b807, b801, b806⟩, ?_⟩
            rw [hF812.get (t := 95) rfl, hL717.get (t := 95) rfl]; simp [intOf]; omega
          · skip
            have hv8 : v2 = mixTo m (permRow r) v 8 := by rw [hp712, show 4 + k2 = 8 from by omega]
            refine wp_cond_false (c_false hF725 rfl (decide_eq_false hc727)) ?_
            refine wp_exit ?_
            refine exit_then ?_
            refine exit_then ?_
            refine exit_here ?_
            refine hK585 _ _ ?_
            clear hK585
            refine wp_region_lit ?_
            refine wpl_op (i := 0) rfl (o_val (v := (.int .i64 (r + 1 : Nat))) hF725 rfl rfl rfl rfl (rn_addN (a := r) (b := 1) (hF725.get rfl) rfl (by omega)) ?_)
            intro a817 hF818; clear hF725
            refine wpl_op (i := 1) rfl (o_val (v := (.int .i64 (r + 1 : Nat))) hF818 rfl rfl rfl rfl (rn_move (hF818.get rfl)) ?_)
            intro a819 hF820; clear hF818
            refine wpList_nil ?_
            refine ⟨⟨r + 1, v2, ((((((((((((((hF820.nil.cons (q_get hF820 (t := 66) rfl (by first | rfl | (congr 1; omega) | (congr 1; done)))).cons (q_get hF820 (t := 65) rfl rfl)).cons (q_get hF820 (t := 12) rfl rfl)).cons (q_get hF820 (t := 59) rfl rfl)).cons (q_get hF820 (t := 21) rfl rfl)).cons (q_get hF820 (t := 20) rfl rfl)).cons (q_get hF820 (t := 19) rfl rfl)).cons (q_get hF820 (t := 18) rfl rfl)).cons (q_get hF820 (t := 9) rfl rfl)).cons (q_get hF820 (t := 8) rfl rfl)).cons (q_get hF820 (t := 3) rfl rfl)).cons (q_get hF820 (t := 2) rfl rfl)).cons (q_get hF820 (t := 1) rfl rfl)).cons (q_get hF820 (t := 0) rfl rfl)), (by omega), (roundTo_step (by omega) hp571 hv8), ((Ext.refl w).trans hx710), b713, b714, b715⟩, ?_⟩
            rw [hF820.get (t := 66) rfl, hL575.get (t := 66) rfl]; simp [intOf]; omega
      · skip
        refine wp_cond_false (c_false hF582 rfl (decide_eq_false hc584)) ?_
        refine wp_exit ?_
        refine exit_then ?_
        refine exit_then ?_
        refine exit_here ?_
        refine hK555 _ _ ?_
        clear hK555
        refine wp_seq_k (fun K821 hK821 => ?_)
        refine wp_region_lit ?_
        refine wpl_op (i := 0) rfl (o_val (v := (.int .i64 0)) hF582 rfl rfl rfl rfl (rn_move rfl) ?_)
        intro a822 hF823; clear hF582
        refine wpList_nil ?_
        refine hK821 _ _ ?_
        clear hK821
        refine wp_block ?_
        have hv10 : v = roundTo (words b) (begin_ h n last) 10 := by rw [hp571, hv0, hmw, show r = 10 from by omega]
        refine wp_loop (fun a' W => ∃ (k5 : Nat) (hh2 : List UInt32), Sl 149 [(0, (.pointer (some ⟨g, 0, none⟩))), (1, (.slice A b.length c)), (2, (.int .u64 (n.toNat : Nat))), (3, (.bool last)), (8, (.pointer (some ⟨g2, 0, none⟩))), (9, (.pointer (some ⟨g10, 0, none⟩))), (18, (.slice A b.length c)), (19, (.int .i64 (b.length : Nat))), (20, (.int .i64 (k : Nat))), (21, (.bool (decide (((k : Nat) : Int) < ((b.length : Nat) : Int))))), (59, (.bool last)), (12, (.func (.func 37) #[(.pointer (some ⟨g10, 0, none⟩))] #[])), (65, (.agg (byteVals permB).toArray)), (66, (.int .i64 (r : Nat))), (67, (.bool (decide (((r : Nat) : Int) < (10 : Int))))), (129, (.int .i64 (k5 : Nat)))] a' ∧ k5 ≤ 8 ∧ hh2 = closeTo v h k5 ∧ w.grownBy W (some g) ∧ Blk W g 48 (u32Vals hh2) ∧ Blk W g10 63 (u32Vals v)) (fun a' _ => 8 - (intOf (a'.eval (.tmp 129))).toNat) ⟨0, h, ((((((((((((((((hF823.nil.cons (q_get hF823 (t := 129) rfl (by first | rfl | (congr 1; omega) | (congr 1; done)))).cons (q_get hF823 (t := 67) rfl rfl)).cons (q_get hF823 (t := 66) rfl rfl)).cons (q_get hF823 (t := 65) rfl rfl)).cons (q_get hF823 (t := 12) rfl rfl)).cons (q_get hF823 (t := 59) rfl rfl)).cons (q_get hF823 (t := 21) rfl rfl)).cons (q_get hF823 (t := 20) rfl rfl)).cons (q_get hF823 (t := 19) rfl rfl)).cons (q_get hF823 (t := 18) rfl rfl)).cons (q_get hF823 (t := 9) rfl rfl)).cons (q_get hF823 (t := 8) rfl rfl)).cons (q_get hF823 (t := 3) rfl rfl)).cons (q_get hF823 (t := 2) rfl rfl)).cons (q_get hF823 (t := 1) rfl rfl)).cons (q_get hF823 (t := 0) rfl rfl)), (by omega), rfl, (grow_ext (grow_refl w g) hx569), b572, b574⟩ ?_
        clear hF823
        rintro a824 w825 ⟨k5, hh2, hF826, hp828, hp829, hx827, b830, b831⟩
        have hL832 := hF826
        have z833 := hx827.size
        have z834 := b830.lt
        have z835 := b831.lt
        have hhl : hh2.length = 8 := by rw [hp829]; exact closeTo_len hh
        refine wp_seq_k (fun K836 hK836 => ?_)
        refine wp_region_lit ?_
        refine wpl_op (i := 0) rfl (o_val (v := (.bool (decide (((k5 : Nat) : Int) < (8 : Int))))) hF826 rfl rfl rfl rfl (rn_lss (hF826.get rfl) rfl) ?_)
        intro a837 hF838; clear hF826
        refine wpList_nil ?_
        refine hK836 _ _ ?_
        clear hK836
        refine wp_seq_k (fun K839 hK839 => ?_)
        by_cases hc840 : ((k5 : Nat) : Int) < (8 : Int)
        · skip
          refine wp_cond_true (c_true hF838 rfl (decide_eq_true hc840)) ?_
          refine wp_skip ?_
          refine hK839 _ _ ?_
          clear hK839
          refine wp_seq_k (fun K841 hK841 => ?_)
          refine wp_block ?_
          refine wp_seq_k (fun K842 hK842 => ?_)
          refine wp_region_lit ?_
          refine wpl_op (i := 0) rfl (o_val (v := (.int .i64 (k5 : Nat))) hF838 rfl rfl rfl rfl (rn_move (hF838.get rfl)) ?_)
          intro a843 hF844; clear hF838
          refine wpl_op (i := 1) rfl (o_val (v := (.int .i64 (k5 : Nat))) hF844 rfl rfl rfl rfl (rn_assign (hF844.get rfl)) ?_)
          intro a845 hF846; clear hF844
          refine wpList_nil ?_
          refine hK842 _ _ ?_
          clear hK842
          have hx848 : ∃ W, w825.drew = W ∧ Ext w825 W := ⟨_, rfl, (Ext.refl _).drew⟩
          obtain ⟨w847, e849, hx848⟩ := hx848
          have z850 := hx848.size
          refine any_start (fun W => Ext w847 W ∧ Blk W g 48 (u32Vals hh2) ∧ Blk W g10 63 (u32Vals v)) (fun i => i == 16) 17 #[false, false, false, false, false, false, false, false, false, false, false, false, false, false, false, false, false] rfl rfl rfl ?_
          rw [e849]; clear e849
          refine any_pure (i := 0) (v := (.pointer (some ⟨g, 0, none⟩))) hF846 (by decide +kernel) (by decide +kernel) rfl rfl rfl rfl (fun _ _ _ _ h => h) rfl (fun W => (rn_move (hF846.get rfl))) ?_
          intro a851 hF852; clear hF846
          refine any_pure (i := 1) (v := (.int .i64 (k5 : Nat))) hF852 (by decide +kernel) (by decide +kernel) rfl rfl rfl rfl (fun _ _ _ _ h => h) rfl (fun W => (rn_move (hF852.get rfl))) ?_
          intro a853 hF854; clear hF852
          refine any_pure (i := 2) (v := (.pointer (some ⟨g, 0, none⟩))) hF854 (by decide +kernel) (by decide +kernel) rfl rfl rfl rfl (fun _ _ _ _ h => h) rfl (fun W => (rn_nil (hF854.get rfl))) ?_
          intro a855 hF856; clear hF854
          refine any_pure (i := 3) (v := (.pointer (some ⟨g, 0 + k5, none⟩))) hF856 (by decide +kernel) (by decide +kernel) rfl rfl rfl rfl (fun _ _ _ _ h => h) rfl (fun W => (rn_indexArr Tryd.underlying48 (by kernel_rfl : (Tryd.prog.info? 47).map (·.size) = some 1) (hF856.get rfl) (hF856.get rfl) (by omega : (0 : Int) ≤ (k5 : Nat)) (by omega : ((k5 : Nat) : Int) < ((8 : Nat) : Int)))) ?_
          intro a857 hF858; clear hF856
          have b860 : Blk w847 g 48 (u32Vals hh2) := (b830.ext hx848)
          have b861 : Blk w847 g10 63 (u32Vals v) := (b831.ext hx848)
          have hS859 : Ext w847 w847 ∧ Blk w847 g 48 (u32Vals hh2) ∧ Blk w847 g10 63 (u32Vals v) := ⟨(Ext.refl w847), b860, b861⟩
          refine any_val (i := 4) (v := (.int .u32 ((hh2.getD k5 0).toNat : Nat))) hF858 (by decide +kernel) (by decide +kernel) rfl rfl rfl rfl (fun _ _ _ _ h => h) rfl hS859 (fun W hW => (rn_load (isAgg_no Tryd.underlying47 rfl) (hF858.get rfl) (blk_word hW.2.1 (by omega) (by have := (show List.length hh2 = _ from hhl); omega)))) ?_
          intro a862 hF863; clear hF858
          refine any_pure (i := 5) (v := (.int .i64 (k5 : Nat))) hF863 (by decide +kernel) (by decide +kernel) rfl rfl rfl rfl (fun _ _ _ _ h => h) rfl (fun W => (rn_move (hF863.get rfl))) ?_
          intro a864 hF865; clear hF863
          refine any_pure (i := 6) (v := (.pointer (some ⟨g10, 0 + k5, none⟩))) hF865 (by decide +kernel) (by decide +kernel) rfl rfl rfl rfl (fun _ _ _ _ h => h) rfl (fun W => (rn_indexArr Tryd.underlying63 (by kernel_rfl : (Tryd.prog.info? 47).map (·.size) = some 1) (hF865.get rfl) (hF865.get rfl) (by omega : (0 : Int) ≤ (k5 : Nat)) (by omega : ((k5 : Nat) : Int) < ((16 : Nat) : Int)))) ?_
          intro a866 hF867; clear hF865
          refine any_val (i := 7) (v := (.int .u32 ((v.getD k5 0).toNat : Nat))) hF867 (by decide +kernel) (by decide +kernel) rfl rfl rfl rfl (fun _ _ _ _ h => h) rfl hS859 (fun W hW => (rn_load (isAgg_no Tryd.underlying47 rfl) (hF867.get rfl) (blk_word hW.2.2 (by omega) (by have := (show List.length v = _ from hvl); omega)))) ?_
          intro a868 hF869; clear hF867
          refine any_pure (i := 8) (v := (.int .i64 (k5 : Nat))) hF869 (by decide +kernel) (by decide +kernel) rfl rfl rfl rfl (fun _ _ _ _ h => h) rfl (fun W => (rn_move (hF869.get rfl))) ?_
          intro a870 hF871; clear hF869
          refine any_pure (i := 9) (v := (.int .i64 (8 + k5 : Nat))) hF871 (by decide +kernel) (by decide +kernel) rfl rfl rfl rfl (fun _ _ _ _ h => h) rfl (fun W => (rn_addN (a := 8) (b := k5) rfl (hF871.get rfl) (by omega))) ?_
          intro a872 hF873; clear hF871
          refine any_pure (i := 10) (v := (.pointer (some ⟨g10, 0 + (8 + k5), none⟩))) hF873 (by decide +kernel) (by decide +kernel) rfl rfl rfl rfl (fun _ _ _ _ h => h) rfl (fun W => (rn_indexArr Tryd.underlying63 (by kernel_rfl : (Tryd.prog.info? 47).map (·.size) = some 1) (hF873.get rfl) (hF873.get rfl) (by omega : (0 : Int) ≤ (8 + k5 : Nat)) (by omega : ((8 + k5 : Nat) : Int) < ((16 : Nat) : Int)))) ?_
          intro a874 hF875; clear hF873
          refine any_val (i := 11) (v := (.int .u32 ((v.getD (8 + k5) 0).toNat : Nat))) hF875 (by decide +kernel) (by decide +kernel) rfl rfl rfl rfl (fun _ _ _ _ h => h) rfl hS859 (fun W hW => (rn_load (isAgg_no Tryd.underlying47 rfl) (hF875.get rfl) (blk_word hW.2.2 (by omega) (by have := (show List.length v = _ from hvl); omega)))) ?_
          intro a876 hF877; clear hF875
          refine any_pure (i := 12) (v := (.int .u32 (((v.getD k5 0) ^^^ (v.getD (8 + k5) 0)).toNat : Nat))) hF877 (by decide +kernel) (by decide +kernel) rfl rfl rfl rfl (fun _ _ _ _ h => h) rfl (fun W => (rn_xor32 (a := (v.getD k5 0)) (b := (v.getD (8 + k5) 0)) (hF877.get rfl) (hF877.get rfl))) ?_
          intro a878 hF879; clear hF877
          refine any_pure (i := 13) (v := (.int .u32 (((hh2.getD k5 0) ^^^ ((v.getD k5 0) ^^^ (v.getD (8 + k5) 0))).toNat : Nat))) hF879 (by decide +kernel) (by decide +kernel) rfl rfl rfl rfl (fun _ _ _ _ h => h) rfl (fun W => (rn_xor32 (a := (hh2.getD k5 0)) (b := ((v.getD k5 0) ^^^ (v.getD (8 + k5) 0))) (hF879.get rfl) (hF879.get rfl))) ?_
          intro a880 hF881; clear hF879
          refine any_pure (i := 14) (v := (.pointer (some ⟨g, 0, none⟩))) hF881 (by decide +kernel) (by decide +kernel) rfl rfl rfl rfl (fun _ _ _ _ h => h) rfl (fun W => (rn_nil (hF881.get rfl))) ?_
          intro a882 hF883; clear hF881
          refine any_pure (i := 15) (v := (.pointer (some ⟨g, 0 + k5, none⟩))) hF883 (by decide +kernel) (by decide +kernel) rfl rfl rfl rfl (fun _ _ _ _ h => h) rfl (fun W => (rn_indexArr Tryd.underlying48 (by kernel_rfl : (Tryd.prog.info? 47).map (·.size) = some 1) (hF883.get rfl) (hF883.get rfl) (by omega : (0 : Int) ≤ (k5 : Nat)) (by omega : ((k5 : Nat) : Int) < ((8 : Nat) : Int)))) ?_
          intro a884 hF885; clear hF883
          refine any_one (i := 16) (by decide +kernel) rfl ?_
          refine o_store1 (new := (u32Vals (hh2.set k5 ((hh2.getD k5 0) ^^^ ((v.getD k5 0) ^^^ (v.getD (8 + k5) 0)))))) hF885 rfl rfl rfl rfl (hF885.get rfl) (hF885.get rfl) b860 (by kernel_rfl : (Tryd.prog.info? 47).map (·.size) = some 1) (by rw [u32Vals_len hhl]; omega) rfl (u32Vals_set (by omega)) ?_
          intro w886 b887 hg888; have z889 := hg888.size
          refine ⟨fun h => absurd h (by decide), ?_⟩
          refine any_nil (by decide +kernel) ?_
          refine hK841 _ _ ?_
          clear hK841
          have hF890 := ((((((((((((((((((hF885.nil.cons (hF885.get (t := 17) (v := (.int .i64 (k5 : Nat))) rfl)).cons (hF885.get (t := 130) (v := (.bool (decide (((k5 : Nat) : Int) < (8 : Int))))) rfl)).cons (hF885.get (t := 129) (v := (.int .i64 (k5 : Nat))) rfl)).cons (hF885.get (t := 67) (v := (.bool (decide (((r : Nat) : Int) < (10 : Int))))) rfl)).cons (hF885.get (t := 66) (v := (.int .i64 (r : Nat))) rfl)).cons (hF885.get (t := 65) (v := (.agg (byteVals permB).toArray)) rfl)).cons (hF885.get (t := 12) (v := (.func (.func 37) #[(.pointer (some ⟨g10, 0, none⟩))] #[])) rfl)).cons (hF885.get (t := 59) (v := (.bool last)) rfl)).cons (hF885.get (t := 21) (v := (.bool (decide (((k : Nat) : Int) < ((b.length : Nat) : Int))))) rfl)).cons (hF885.get (t := 20) (v := (.int .i64 (k : Nat))) rfl)).cons (hF885.get (t := 19) (v := (.int .i64 (b.length : Nat))) rfl)).cons (hF885.get (t := 18) (v := (.slice A b.length c)) rfl)).cons (hF885.get (t := 9) (v := (.pointer (some ⟨g10, 0, none⟩))) rfl)).cons (hF885.get (t := 8) (v := (.pointer (some ⟨g2, 0, none⟩))) rfl)).cons (hF885.get (t := 3) (v := (.bool last)) rfl)).cons (hF885.get (t := 2) (v := (.int .u64 (n.toNat : Nat))) rfl)).cons (hF885.get (t := 1) (v := (.slice A b.length c)) rfl)).cons (hF885.get (t := 0) (v := (.pointer (some ⟨g, 0, none⟩))) rfl))
          clear hF885
          refine wp_region_lit ?_
          refine wpl_op (i := 0) rfl (o_val (v := (.int .i64 (k5 + 1 : Nat))) hF890 rfl rfl rfl rfl (rn_addN (a := k5) (b := 1) (hF890.get rfl) rfl (by omega)) ?_)
          intro a891 hF892; clear hF890
          refine wpl_op (i := 1) rfl (o_val (v := (.int .i64 (k5 + 1 : Nat))) hF892 rfl rfl rfl rfl (rn_move (hF892.get rfl)) ?_)
          intro a893 hF894; clear hF892
          refine wpList_nil ?_
          obtain ⟨v895, e896⟩ : ∃ z, z = hh2.set k5 ((hh2.getD k5 0) ^^^ ((v.getD k5 0) ^^^ (v.getD (8 + k5) 0))) := ⟨_, rfl⟩
          have hl897 : v895.length = 8 := (congrArg List.length e896).trans (show List.length (hh2.set k5 ((hh2.getD k5 0) ^^^ ((v.getD k5 0) ^^^ (v.getD (8 + k5) 0)))) = _ from List.length_set.trans hhl)
          rw [← e896] at b887
          have b898 : Blk w886 g10 63 (u32Vals v) := (b861.grownN hg888 (by omega))
          refine ⟨⟨k5 + 1, v895, ((((((((((((((((hF894.nil.cons (q_get hF894 (t := 129) rfl (by first | rfl | (congr 1; omega) | (congr 1; done)))).cons (q_get hF894 (t := 67) rfl rfl)).cons (q_get hF894 (t := 66) rfl rfl)).cons (q_get hF894 (t := 65) rfl rfl)).cons (q_get hF894 (t := 12) rfl rfl)).cons (q_get hF894 (t := 59) rfl rfl)).cons (q_get hF894 (t := 21) rfl rfl)).cons (q_get hF894 (t := 20) rfl rfl)).cons (q_get hF894 (t := 19) rfl rfl)).cons (q_get hF894 (t := 18) rfl rfl)).cons (q_get hF894 (t := 9) rfl rfl)).cons (q_get hF894 (t := 8) rfl rfl)).cons (q_get hF894 (t := 3) rfl rfl)).cons (q_get hF894 (t := 2) rfl rfl)).cons (q_get hF894 (t := 1) rfl rfl)).cons (q_get hF894 (t := 0) rfl rfl)), (by omega), (closeTo_step hp829 e896), (grow_set (grow_ext (grow_set (grow_refl w g) hx827) hx848) hg888), b887, b898⟩, ?_⟩
          rw [hF894.get (t := 129) rfl, hL832.get (t := 129) rfl]; simp [intOf]; omega
        · skip
          refine wp_cond_false (c_false hF838 rfl (decide_eq_false hc840)) ?_
          refine wp_exit ?_
          refine exit_then ?_
          refine exit_then ?_
          refine exit_here ?_
          refine ret0 hF838 rfl ?_
          have hk8 : k5 = 8 := by omega
          subst hk8
          exact ⟨rfl, (absorb_eq hv10 hp829) ▸ b830, (grow_set (grow_refl w g) hx827)⟩

end Go.Proofs.YtgodliookpgliaaDoor
