/- Several texts in one: DigD, ElA, DigE. -/
import Derived.Test.YtmjgjopbeokajaaDoorProg
import Derived.Test.YtmjgjopbeokajaaDoorBunB
import Derived.KernelRfl
import Derived.Test.YtmjgjopbeokajaaDoorBunA
namespace Go.Proofs.YtmjgjopbeokajaaDoor
open Go.RowKit

variable {S S' : Nat → Prop}

theorem El91 : El Tryd.prog 91 79 (.int .u32 0) 1 4 := ⟨Tryd.underlying91, by kernel_rfl, rfl, by decide⟩

set_option maxRecDepth 100000 in
set_option maxHeartbeats 1000000 in
theorem absorb_any (g : Nat) (h : List UInt32) (A : Option Addr) (c : Nat) (b : List UInt8) (n : UInt64) (last : Bool) (w : World) (hb : Blk w g 80 (u32Vals h)) (hh : h.length = 8) (hf : Fl S w 1 (.slice A b.length c) b.length (byteVals b)) (h64 : b.length ≤ 64) (hG : Glob w) :
    Calls Tryd.prog 64 #[.pointer (some ⟨g, 0, none⟩), .slice A b.length c, .int .u64 (n.toNat : Nat), .bool last] w (fun e w' => e = .returned (.tuple #[]) ∧ Blk w' g 80 (u32Vals (absorb h b n last)) ∧ w.grownBy w' (some g)) := by
  refine calls_enter (l := [(.pointer (some ⟨g, 0, none⟩)), (.slice A b.length c), (.int .u64 (n.toNat : Nat)), (.bool last)]) Tryd.func64 rfl rfl rfl (fun a hF => ?_)
  have hlt := hb.lt
  refine wp_seq_k (fun K1 hK1 => ?_)
  refine wp_region_lit ?_
  refine wpl_op (i := 0) rfl (o_new (fun g => (.pointer (some ⟨g, 0, none⟩))) (u32Vals (List.replicate 16 0)) 90 hF rfl rfl rfl rfl (by kernel_rfl) ?_)
  intro g2 w3 a8 F9 z6 z7 b4 hx5; clear hF
  refine wpl_op (i := 1) rfl (o_new (fun g => (.pointer (some ⟨g, 0, none⟩))) (u32Vals (List.replicate 16 0)) 90 F9 rfl rfl rfl rfl (by kernel_rfl) ?_)
  intro g10 w11 a16 F17 z14 z15 b12 hx13; clear F9
  refine wpList_nil ?_
  refine hK1 _ _ ?_
  clear hK1
  refine wp_seq_k (fun K18 hK18 => ?_)
  refine wp_seq_k (fun K19 hK19 => ?_)
  refine wp_region_lit ?_
  refine qv 0 (.slice A b.length c) F17 rfl (rn_move (F17.get rfl)) fun _ F21 => ?_; clear F17
  refine qv 1 (.int .i64 (b.length : Nat)) F21 rfl (rn_len_slice Tryd.underlying22 (F21.get rfl)) fun _ F23 => ?_; clear F21
  refine qv 2 (.int .i64 0) F23 rfl (rn_move rfl) fun _ F25 => ?_; clear F23
  refine wpList_nil ?_
  refine hK19 _ _ ?_
  clear hK19
  refine wp_block ?_
  have b26 := ((hb.ext hx5).ext hx13)
  have b27 := (b4.ext hx13)
  refine wp_loop (fun a' W => ∃ (k : Nat) (m : List UInt32), Sl 149 [(0, (.pointer (some ⟨g, 0, none⟩))), (1, (.slice A b.length c)), (2, (.int .u64 (n.toNat : Nat))), (3, (.bool last)), (8, (.pointer (some ⟨g2, 0, none⟩))), (9, (.pointer (some ⟨g10, 0, none⟩))), (18, (.slice A b.length c)), (19, (.int .i64 (b.length : Nat))), (20, (.int .i64 (k : Nat)))] a' ∧ k ≤ b.length ∧ m = wordsTo b k ∧ Ext w W ∧ Blk W g 80 (u32Vals h) ∧ Blk W g2 90 (u32Vals m) ∧ Blk W g10 90 (u32Vals (List.replicate 16 0))) (fun a' _ => b.length - (intOf (a'.eval (.tmp 20))).toNat) ⟨0, (List.replicate 16 0), (((((((((F25.nil.cons (q_get F25 (t := 20) rfl (by first | rfl | (congr 1; omega) | (congr 1; done)))).cons (q_get F25 (t := 19) rfl rfl)).cons (q_get F25 (t := 18) rfl rfl)).cons (q_get F25 (t := 9) rfl rfl)).cons (q_get F25 (t := 8) rfl rfl)).cons (q_get F25 (t := 3) rfl rfl)).cons (q_get F25 (t := 2) rfl rfl)).cons (q_get F25 (t := 1) rfl rfl)).cons (q_get F25 (t := 0) rfl rfl)), (by omega), rfl, (((Ext.refl w).trans hx5).trans hx13), b26, b27, b12⟩ ?_
  clear F25
  rintro a28 w29 ⟨k, m, F30, hp32, hp33, hx31, b34, b35, b36⟩
  have hL37 := F30
  have z38 := hx31.size
  have z39 := b34.lt
  have z40 := b35.lt
  have z41 := b36.lt
  have hm : m.length = 16 := by rw [hp33]; exact wordsTo_len _ _
  refine wp_seq_k (fun K42 hK42 => ?_)
  refine wp_region_lit ?_
  refine qv 0 (.bool (decide (((k : Nat) : Int) < ((b.length : Nat) : Int)))) F30 rfl (rn_lss (F30.get rfl) (F30.get rfl)) fun _ F44 => ?_; clear F30
  refine wpList_nil ?_
  refine hK42 _ _ ?_
  clear hK42
  refine wp_seq_k (fun K45 hK45 => ?_)
  by_cases hc46 : ((k : Nat) : Int) < ((b.length : Nat) : Int)
  · skip
    refine wp_cond_true (c_true F44 rfl (decide_eq_true hc46)) ?_
    refine wp_skip ?_
    refine hK45 _ _ ?_
    clear hK45
    refine wp_seq_k (fun K47 hK47 => ?_)
    refine wp_block ?_
    refine wp_seq_k (fun K48 hK48 => ?_)
    refine wp_region_lit ?_
    refine qv 0 (.int .i64 (k : Nat)) F44 rfl (rn_move (F44.get rfl)) fun _ F50 => ?_; clear F44
    have d54 := (hf.ext hx31)
    obtain ⟨b51, o52, hA53, -⟩ := Fl.at d54 (by omega)
    refine qv 1 (.pointer (some ⟨b51, o52 + k, none⟩)) F50 rfl (rn_index1 Tryd.underlying22 inf5 ((F50.get rfl).trans (by rw [hA53])) (F50.get rfl) (by omega : (0 : Int) ≤ (k : Nat)) (by omega : ((k : Nat) : Int) < ((b.length : Nat) : Int))) fun _ F56 => ?_; clear F50
    refine qv 2 (.int .u8 ((b.getD k 0).toNat : Nat)) F56 rfl (rn_load (isAgg_no Tryd.underlying5 rfl) (F56.get rfl) (Fl.cellAt d54 hA53 (byteVals_at (i := k) (by omega)))) fun _ F58 => ?_; clear F56
    refine qv 3 (.int .i64 (k : Nat)) F58 rfl (rn_assign (F58.get rfl)) fun _ F60 => ?_; clear F58
    refine qv 4 (.int .u8 ((b.getD k 0).toNat : Nat)) F60 rfl (rn_assign (F60.get rfl)) fun _ F62 => ?_; clear F60
    refine wpList_nil ?_
    refine hK48 _ _ ?_
    clear hK48
    have hx64 : ∃ W, w29.drew = W ∧ Ext w29 W := ⟨_, rfl, (Ext.refl _).drew⟩
    obtain ⟨w63, e65, hx64⟩ := hx64
    have z66 := hx64.size
    refine any_start (fun W => Ext w63 W ∧ Blk W g2 90 (u32Vals m)) (fun i => i == 12) 13 #[false, false, false, false, false, false, false, false, false, false, false, false, false] rfl rfl rfl ?_
    rw [e65]; clear e65
    refine qp 0 (.int .i64 (k : Nat)) F62 rfl rfl (fun W => (rn_move (F62.get rfl))) fun _ F68 => ?_; clear F62
    refine qp 1 (.int .i64 (k / 4 : Nat)) F68 rfl rfl (fun W => (rn_quoN (a := k) (b := 4) (F68.get rfl) rfl (by omega) (by omega))) fun _ F70 => ?_; clear F68
    refine qp 2 (.pointer (some ⟨g2, 0 + (k / 4), none⟩)) F70 rfl rfl (fun W => (rn_indexArr Tryd.underlying90 inf79 (F70.get rfl) (F70.get rfl) (by omega : (0 : Int) ≤ (k / 4 : Nat)) (by omega : ((k / 4 : Nat) : Int) < ((16 : Nat) : Int)))) fun _ F72 => ?_; clear F70
    have b74 := (b35.ext hx64)
    have hS73 : Ext w63 w63 ∧ Blk w63 g2 90 (u32Vals m) := ⟨(Ext.refl w63), b74⟩
    refine qs 3 (.int .u32 ((m.getD (k / 4) 0).toNat : Nat)) F72 rfl rfl hS73 (fun W hW => (rn_load (isAgg_no Tryd.underlying79 rfl) (F72.get rfl) (blk_word hW.2 (by omega) (by have := (show List.length m = _ from hm); omega)))) fun _ F76 => ?_; clear F72
    refine qp 4 (.int .u8 ((b.getD k 0).toNat : Nat)) F76 rfl rfl (fun W => (rn_move (F76.get rfl))) fun _ F78 => ?_; clear F76
    refine qs 5 (.int .u32 (((b.getD k 0).toUInt32).toNat : Nat)) F78 rfl rfl hS73 (fun W hW => (rn_convW Tryd.underlying5 Tryd.underlying79 (F78.get rfl) (cv8_32 (b.getD k 0)))) fun _ F80 => ?_; clear F78
    refine qp 6 (.int .i64 (k : Nat)) F80 rfl rfl (fun W => (rn_move (F80.get rfl))) fun _ F82 => ?_; clear F80
    refine qp 7 (.int .i64 (k % 4 : Nat)) F82 rfl rfl (fun W => (rn_remN (a := k) (b := 4) (F82.get rfl) rfl (by omega))) fun _ F84 => ?_; clear F82
    refine qp 8 (.int .i64 (8 * (k % 4) : Nat)) F84 rfl rfl (fun W => (rn_mulN (a := 8) (b := k % 4) rfl (F84.get rfl) (by omega))) fun _ F86 => ?_; clear F84
    refine qp 9 (.int .u32 ((((b.getD k 0).toUInt32) <<< UInt32.ofNat (8 * (k % 4))).toNat : Nat)) F86 rfl rfl (fun W => (rn_shl32 (a := ((b.getD k 0).toUInt32)) (n := (8 * (k % 4))) (F86.get rfl) (F86.get rfl) (by omega))) fun _ F88 => ?_; clear F86
    refine qp 10 (.int .u32 (((m.getD (k / 4) 0) ||| (((b.getD k 0).toUInt32) <<< UInt32.ofNat (8 * (k % 4)))).toNat : Nat)) F88 rfl rfl (fun W => (rn_or32 (a := (m.getD (k / 4) 0)) (b := (((b.getD k 0).toUInt32) <<< UInt32.ofNat (8 * (k % 4)))) (F88.get rfl) (F88.get rfl))) fun _ F90 => ?_; clear F88
    refine qp 11 (.pointer (some ⟨g2, 0 + (k / 4), none⟩)) F90 rfl rfl (fun W => (rn_indexArr Tryd.underlying90 inf79 (F90.get rfl) (F90.get rfl) (by omega : (0 : Int) ≤ (k / 4 : Nat)) (by omega : ((k / 4 : Nat) : Int) < ((16 : Nat) : Int)))) fun _ F92 => ?_; clear F90
    refine any_one (i := 12) (by decide +kernel) rfl ?_
    refine o_store1 (new := (u32Vals (m.set (k / 4) ((m.getD (k / 4) 0) ||| (((b.getD k 0).toUInt32) <<< UInt32.ofNat (8 * (k % 4))))))) F92 rfl rfl rfl rfl (F92.get rfl) (F92.get rfl) b74 inf79 (by rw [u32Vals_len hm]; omega) rfl (u32Vals_set (by omega)) ?_
    intro w93 b94 hg95; have z96 := hg95.size
    refine ⟨fun h => absurd h (by decide), ?_⟩
    refine any_nil (by decide +kernel) ?_
    refine hK47 _ _ ?_
    clear hK47
    have F97 := ((((((((((((F92.nil.c F92 11 rfl).c F92 10 rfl).c F92 21 rfl).c F92 20 rfl).c F92 19 rfl).c F92 18 rfl).c F92 9 rfl).c F92 8 rfl).c F92 3 rfl).c F92 2 rfl).c F92 1 rfl).c F92 0 rfl)
    clear F92
    refine wp_region_lit ?_
    refine qv 0 (.int .i64 (k + 1 : Nat)) F97 rfl (rn_addN (a := k) (b := 1) (F97.get rfl) rfl (by omega)) fun _ F99 => ?_; clear F97
    refine qv 1 (.int .i64 (k + 1 : Nat)) F99 rfl (rn_move (F99.get rfl)) fun _ F101 => ?_; clear F99
    refine wpList_nil ?_
    obtain ⟨v102, e103⟩ : ∃ z, z = m.set (k / 4) ((m.getD (k / 4) 0) ||| (((b.getD k 0).toUInt32) <<< UInt32.ofNat (8 * (k % 4)))) := ⟨_, rfl⟩
    have hl104 : v102.length = 16 := (congrArg List.length e103).trans (show List.length (m.set (k / 4) ((m.getD (k / 4) 0) ||| (((b.getD k 0).toUInt32) <<< UInt32.ofNat (8 * (k % 4))))) = _ from List.length_set.trans hm)
    rw [← e103] at b94
    have b105 := ((b34.ext hx64).grownN hg95 (by omega))
    have b106 := ((b36.ext hx64).grownN hg95 (by omega))
    refine ⟨⟨k + 1, v102, (((((((((F101.nil.cons (q_get F101 (t := 20) rfl (by first | rfl | (congr 1; omega) | (congr 1; done)))).cons (q_get F101 (t := 19) rfl rfl)).cons (q_get F101 (t := 18) rfl rfl)).cons (q_get F101 (t := 9) rfl rfl)).cons (q_get F101 (t := 8) rfl rfl)).cons (q_get F101 (t := 3) rfl rfl)).cons (q_get F101 (t := 2) rfl rfl)).cons (q_get F101 (t := 1) rfl rfl)).cons (q_get F101 (t := 0) rfl rfl)), (by omega), (wordsTo_step hp33 e103), ((((Ext.refl w).trans hx31).trans hx64).grownN hg95 (by omega)), b105, b94, b106⟩, ?_⟩
    rw [F101.get (t := 20) rfl, hL37.get (t := 20) rfl]; simp [intOf]; omega
  · skip
    refine wp_cond_false (c_false F44 rfl (decide_eq_false hc46)) ?_
    refine wp_exit ?_
    refine exit_then ?_
    refine exit_then ?_
    refine exit_here ?_
    refine hK18 _ _ ?_
    clear hK18
    refine wp_seq_k (fun K107 hK107 => ?_)
    have hx109 : ∃ W, w29.drew = W ∧ Ext w29 W := ⟨_, rfl, (Ext.refl _).drew⟩
    obtain ⟨w108, e110, hx109⟩ := hx109
    have z111 := hx109.size
    refine any_start (fun W => Ext w108 W ∧ Blk W g10 90 (u32Vals (List.replicate 16 0)) ∧ Blk W g 80 (u32Vals h)) (fun i => i == 4) 5 #[false, false, false, false, false] rfl rfl rfl ?_
    rw [e110]; clear e110
    refine qp 0 (.slice (some ⟨g10, 0, none⟩) 8 16) F44 rfl rfl (fun W => (rn_arrHi Tryd.underlying90 inf79 (F44.get rfl) rfl (by omega : (0 : Int) ≤ 8) (by omega : (8 : Int) ≤ ((16 : Nat) : Int)))) fun _ F113 => ?_; clear F44
    refine qp 1 (.pointer (some ⟨g, 0, none⟩)) F113 rfl rfl (fun W => (rn_move (F113.get rfl))) fun _ F115 => ?_; clear F113
    refine qp 2 (.pointer (some ⟨g, 0, none⟩)) F115 rfl rfl (fun W => (rn_nil (F115.get rfl))) fun _ F117 => ?_; clear F115
    refine qp 3 (.slice (some ⟨g, 0, none⟩) 8 8) F117 rfl rfl (fun W => (rn_arrAll Tryd.underlying80 inf79 (F117.get rfl))) fun _ F119 => ?_; clear F117
    refine any_one (i := 4) (by decide +kernel) rfl ?_
    have b120 := (b36.ext hx109)
    have b121 := (b34.ext hx109)
    refine o_copy (new := u32Vals (h ++ List.replicate 8 0)) (n := 8) (El91) F119 rfl rfl rfl rfl rfl (F119.get rfl) (F119.get rfl) b120 (b121.cel (by rw [u32Vals_len hh]) (u32Vals_one _)) (by rw [u32Vals_len (show List.length (List.replicate 16 0) = _ from List.length_replicate)]; omega) (copy1 hh) (by omega) ?_
    intro w122 a125 F126 b123 hg124; clear F119; have z127 := hg124.size
    refine ⟨fun h => absurd h (by decide), ?_⟩
    refine any_nil (by decide +kernel) ?_
    refine hK107 _ _ ?_
    clear hK107
    have F128 := ((((((((((F126.nil.c F126 21 rfl).c F126 20 rfl).c F126 19 rfl).c F126 18 rfl).c F126 9 rfl).c F126 8 rfl).c F126 3 rfl).c F126 2 rfl).c F126 1 rfl).c F126 0 rfl)
    clear F126
    refine wp_seq_k (fun K129 hK129 => ?_)
    have hx131 : ∃ W, w122.drew = W ∧ Ext w122 W := ⟨_, rfl, (Ext.refl _).drew⟩
    obtain ⟨w130, e132, hx131⟩ := hx131
    have z133 := hx131.size
    refine any_start (fun W => Ext w130 W ∧ Blk W g10 90 (u32Vals (h ++ List.replicate 8 0))) (fun i => i == 2) 3 #[false, false, false] rfl rfl rfl ?_
    rw [e132]; clear e132
    refine qp 0 (.slice (some ⟨g10, 8, none⟩) 8 8) F128 rfl rfl (fun W => (rn_arrLo (l := 8) Tryd.underlying90 inf79 (F128.get rfl) rfl (by omega))) fun _ F135 => ?_; clear F128
    refine qp 1 (.slice (some ⟨0, 0, none⟩) 8 8) F135 rfl rfl (fun W => (rn_arrAll Tryd.underlying80 inf79 rfl)) fun _ F137 => ?_; clear F135
    refine any_one (i := 2) (by decide +kernel) rfl ?_
    have b138 := (b123.ext hx131)
    refine o_copy (new := u32Vals (h ++ iv)) (n := 8) (El91) F137 rfl rfl rfl rfl rfl (F137.get rfl) (F137.get rfl) b138 (hG.ext (((((Ext.refl w).trans hx31).trans hx109).grownN hg124 (by omega)).trans hx131)).a (by rw [u32Vals_len (h8_len hh)]; omega) (copy2 hh) (by omega) ?_
    intro w139 a142 F143 b140 hg141; clear F137; have z144 := hg141.size
    refine ⟨fun h => absurd h (by decide), ?_⟩
    refine any_nil (by decide +kernel) ?_
    refine hK129 _ _ ?_
    clear hK129
    refine wp_seq_k (fun K145 hK145 => ?_)
    refine wp_region_lit ?_
    refine qv 0 (.pointer (some ⟨g10, 0 + 12, none⟩)) F143 rfl (rn_indexArr Tryd.underlying90 inf79 (F143.get rfl) rfl (by omega : (0 : Int) ≤ 12) (by omega : (12 : Int) < ((16 : Nat) : Int))) fun _ F147 => ?_; clear F143
    refine qv 1 (.int .u32 (((h ++ iv).getD 12 0).toNat : Nat)) F147 rfl (rn_load (isAgg_no Tryd.underlying79 rfl) (F147.get rfl) (blk_word b140 (by omega) (by have := (show List.length (h ++ iv) = _ from (hiv_len hh)); omega))) fun _ F149 => ?_; clear F147
    refine qv 2 (.int .u64 (n.toNat : Nat)) F149 rfl (rn_move (F149.get rfl)) fun _ F151 => ?_; clear F149
    refine qv 3 (.int .u32 (n.toUInt32.toNat : Nat)) F151 rfl (rn_convW Tryd.underlying81 Tryd.underlying79 (F151.get rfl) (cv64_32 n)) fun _ F153 => ?_; clear F151
    refine qv 4 (.int .u32 ((((h ++ iv).getD 12 0) ^^^ n.toUInt32).toNat : Nat)) F153 rfl (rn_xor32 (a := ((h ++ iv).getD 12 0)) (b := n.toUInt32) (F153.get rfl) (F153.get rfl)) fun _ F155 => ?_; clear F153
    refine qv 5 (.pointer (some ⟨g10, 0 + 12, none⟩)) F155 rfl (rn_indexArr Tryd.underlying90 inf79 (F155.get rfl) rfl (by omega : (0 : Int) ≤ 12) (by omega : (12 : Int) < ((16 : Nat) : Int))) fun _ F157 => ?_; clear F155
    refine wpl_op (i := 6) rfl (o_store1 (new := (u32Vals ((h ++ iv).set 12 (((h ++ iv).getD 12 0) ^^^ n.toUInt32)))) F157 rfl rfl rfl rfl (F157.get rfl) (F157.get rfl) b140 inf79 (by rw [u32Vals_len (hiv_len hh)]; omega) rfl (u32Vals_set (by omega)) ?_)
    intro w158 b159 hg160; have z161 := hg160.size
    refine wpList_nil ?_
    refine hK145 _ _ ?_
    clear hK145
    have F162 := ((((((((((F157.nil.c F157 21 rfl).c F157 20 rfl).c F157 19 rfl).c F157 18 rfl).c F157 9 rfl).c F157 8 rfl).c F157 3 rfl).c F157 2 rfl).c F157 1 rfl).c F157 0 rfl)
    clear F157
    refine wp_seq_k (fun K163 hK163 => ?_)
    refine wp_region_lit ?_
    refine qv 0 (.pointer (some ⟨g10, 0 + 13, none⟩)) F162 rfl (rn_indexArr Tryd.underlying90 inf79 (F162.get rfl) rfl (by omega : (0 : Int) ≤ 13) (by omega : (13 : Int) < ((16 : Nat) : Int))) fun _ F165 => ?_; clear F162
    refine qv 1 (.int .u32 ((((h ++ iv).set 12 (((h ++ iv).getD 12 0) ^^^ n.toUInt32)).getD 13 0).toNat : Nat)) F165 rfl (rn_load (isAgg_no Tryd.underlying79 rfl) (F165.get rfl) (blk_word b159 (by omega) (by have := (show List.length ((h ++ iv).set 12 (((h ++ iv).getD 12 0) ^^^ n.toUInt32)) = _ from (show List.length ((h ++ iv).set 12 (((h ++ iv).getD 12 0) ^^^ n.toUInt32)) = _ from List.length_set.trans (hiv_len hh))); omega))) fun _ F167 => ?_; clear F165
    refine qv 2 (.int .u64 (n.toNat : Nat)) F167 rfl (rn_move (F167.get rfl)) fun _ F169 => ?_; clear F167
    refine qv 3 (.int .u64 ((n >>> UInt64.ofNat 32).toNat : Nat)) F169 rfl (rn_shr64 (a := n) (n := 32) (F169.get rfl) rfl (by omega)) fun _ F171 => ?_; clear F169
    refine qv 4 (.int .u32 (((n >>> UInt64.ofNat 32).toUInt32).toNat : Nat)) F171 rfl (rn_convW Tryd.underlying81 Tryd.underlying79 (F171.get rfl) (cv64_32 (n >>> UInt64.ofNat 32))) fun _ F173 => ?_; clear F171
    refine qv 5 (.int .u32 (((((h ++ iv).set 12 (((h ++ iv).getD 12 0) ^^^ n.toUInt32)).getD 13 0) ^^^ ((n >>> UInt64.ofNat 32).toUInt32)).toNat : Nat)) F173 rfl (rn_xor32 (a := (((h ++ iv).set 12 (((h ++ iv).getD 12 0) ^^^ n.toUInt32)).getD 13 0)) (b := ((n >>> UInt64.ofNat 32).toUInt32)) (F173.get rfl) (F173.get rfl)) fun _ F175 => ?_; clear F173
    refine qv 6 (.pointer (some ⟨g10, 0 + 13, none⟩)) F175 rfl (rn_indexArr Tryd.underlying90 inf79 (F175.get rfl) rfl (by omega : (0 : Int) ≤ 13) (by omega : (13 : Int) < ((16 : Nat) : Int))) fun _ F177 => ?_; clear F175
    refine wpl_op (i := 7) rfl (o_store1 (new := (u32Vals (((h ++ iv).set 12 (((h ++ iv).getD 12 0) ^^^ n.toUInt32)).set 13 ((((h ++ iv).set 12 (((h ++ iv).getD 12 0) ^^^ n.toUInt32)).getD 13 0) ^^^ ((n >>> UInt64.ofNat 32).toUInt32))))) F177 rfl rfl rfl rfl (F177.get rfl) (F177.get rfl) b159 inf79 (by rw [u32Vals_len (show List.length ((h ++ iv).set 12 (((h ++ iv).getD 12 0) ^^^ n.toUInt32)) = _ from List.length_set.trans (hiv_len hh))]; omega) rfl (u32Vals_set (by omega)) ?_)
    intro w178 b179 hg180; have z181 := hg180.size
    refine wpList_nil ?_
    refine hK163 _ _ ?_
    clear hK163
    have F182 := ((((((((((F177.nil.c F177 21 rfl).c F177 20 rfl).c F177 19 rfl).c F177 18 rfl).c F177 9 rfl).c F177 8 rfl).c F177 3 rfl).c F177 2 rfl).c F177 1 rfl).c F177 0 rfl)
    clear F177
    refine wp_seq_k (fun K183 hK183 => ?_)
    refine wp_seq_k (fun K184 hK184 => ?_)
    refine wp_region_lit ?_
    refine qv 0 (.bool last) F182 rfl (rn_move (F182.get rfl)) fun _ F186 => ?_; clear F182
    refine wpList_nil ?_
    refine hK184 _ _ ?_
    clear hK184
    rcases Bool.eq_false_or_eq_true last with hc187 | hc187
    · skip
      refine wp_cond_true (c_true F186 rfl hc187) ?_
      refine wp_region_lit ?_
      refine qv 0 (.pointer (some ⟨g10, 0 + 14, none⟩)) F186 rfl (rn_indexArr Tryd.underlying90 inf79 (F186.get rfl) rfl (by omega : (0 : Int) ≤ 14) (by omega : (14 : Int) < ((16 : Nat) : Int))) fun _ F189 => ?_; clear F186
      refine qv 1 (.int .u32 (((((h ++ iv).set 12 (((h ++ iv).getD 12 0) ^^^ n.toUInt32)).set 13 ((((h ++ iv).set 12 (((h ++ iv).getD 12 0) ^^^ n.toUInt32)).getD 13 0) ^^^ ((n >>> UInt64.ofNat 32).toUInt32))).getD 14 0).toNat : Nat)) F189 rfl (rn_load (isAgg_no Tryd.underlying79 rfl) (F189.get rfl) (blk_word b179 (by omega) (by have := (show List.length (((h ++ iv).set 12 (((h ++ iv).getD 12 0) ^^^ n.toUInt32)).set 13 ((((h ++ iv).set 12 (((h ++ iv).getD 12 0) ^^^ n.toUInt32)).getD 13 0) ^^^ ((n >>> UInt64.ofNat 32).toUInt32))) = _ from (show List.length (((h ++ iv).set 12 (((h ++ iv).getD 12 0) ^^^ n.toUInt32)).set 13 ((((h ++ iv).set 12 (((h ++ iv).getD 12 0) ^^^ n.toUInt32)).getD 13 0) ^^^ ((n >>> UInt64.ofNat 32).toUInt32))) = _ from List.length_set.trans (show List.length ((h ++ iv).set 12 (((h ++ iv).getD 12 0) ^^^ n.toUInt32)) = _ from List.length_set.trans (hiv_len hh)))); omega))) fun _ F191 => ?_; clear F189
      refine qv 2 (.int .u32 ((~~~ ((((h ++ iv).set 12 (((h ++ iv).getD 12 0) ^^^ n.toUInt32)).set 13 ((((h ++ iv).set 12 (((h ++ iv).getD 12 0) ^^^ n.toUInt32)).getD 13 0) ^^^ ((n >>> UInt64.ofNat 32).toUInt32))).getD 14 0)).toNat : Nat)) F191 rfl (rn_not32 (a := ((((h ++ iv).set 12 (((h ++ iv).getD 12 0) ^^^ n.toUInt32)).set 13 ((((h ++ iv).set 12 (((h ++ iv).getD 12 0) ^^^ n.toUInt32)).getD 13 0) ^^^ ((n >>> UInt64.ofNat 32).toUInt32))).getD 14 0)) (F191.get rfl)) fun _ F193 => ?_; clear F191
      refine qv 3 (.pointer (some ⟨g10, 0 + 14, none⟩)) F193 rfl (rn_indexArr Tryd.underlying90 inf79 (F193.get rfl) rfl (by omega : (0 : Int) ≤ 14) (by omega : (14 : Int) < ((16 : Nat) : Int))) fun _ F195 => ?_; clear F193
      refine wpl_op (i := 4) rfl (o_store1 (new := (u32Vals ((((h ++ iv).set 12 (((h ++ iv).getD 12 0) ^^^ n.toUInt32)).set 13 ((((h ++ iv).set 12 (((h ++ iv).getD 12 0) ^^^ n.toUInt32)).getD 13 0) ^^^ ((n >>> UInt64.ofNat 32).toUInt32))).set 14 (~~~ ((((h ++ iv).set 12 (((h ++ iv).getD 12 0) ^^^ n.toUInt32)).set 13 ((((h ++ iv).set 12 (((h ++ iv).getD 12 0) ^^^ n.toUInt32)).getD 13 0) ^^^ ((n >>> UInt64.ofNat 32).toUInt32))).getD 14 0))))) F195 rfl rfl rfl rfl (F195.get rfl) (F195.get rfl) b179 inf79 (by rw [u32Vals_len (show List.length (((h ++ iv).set 12 (((h ++ iv).getD 12 0) ^^^ n.toUInt32)).set 13 ((((h ++ iv).set 12 (((h ++ iv).getD 12 0) ^^^ n.toUInt32)).getD 13 0) ^^^ ((n >>> UInt64.ofNat 32).toUInt32))) = _ from List.length_set.trans (show List.length ((h ++ iv).set 12 (((h ++ iv).getD 12 0) ^^^ n.toUInt32)) = _ from List.length_set.trans (hiv_len hh)))]; omega) rfl (u32Vals_set (by omega)) ?_)
      intro w196 b197 hg198; have z199 := hg198.size
      refine wpList_nil ?_
      refine hK183 _ _ ?_
      clear hK183
      have F200 := (((((((((((F195.nil.c F195 59 rfl).c F195 21 rfl).c F195 20 rfl).c F195 19 rfl).c F195 18 rfl).c F195 9 rfl).c F195 8 rfl).c F195 3 rfl).c F195 2 rfl).c F195 1 rfl).c F195 0 rfl)
      clear F195
      refine wp_seq_k (fun K201 hK201 => ?_)
      refine wp_region_lit ?_
      refine qv 0 (.func (.func 69) #[(.pointer (some ⟨g10, 0, none⟩))] #[]) F200 rfl (rn_makeFunc (args1 (F200.get rfl)) (args0)) fun _ F203 => ?_; clear F200
      refine qv 1 (.func (.func 69) #[(.pointer (some ⟨g10, 0, none⟩))] #[]) F203 rfl (rn_assign (F203.get rfl)) fun _ F205 => ?_; clear F203
      refine wpList_nil ?_
      refine hK201 _ _ ?_
      clear hK201
      refine wp_seq_k (fun K206 hK206 => ?_)
      refine wp_seq_k (fun K207 hK207 => ?_)
      refine wp_region_lit ?_
      refine qv 0 (.agg (byteVals permB).toArray) F205 rfl (rn_loadN (cs := byteVals permB) rfl Tryd.underlying94 rfl (inf94.trans (congrArg some (byteVals_len permB_len).symm)) (fun j v hv => (hG.ext (((((((((Ext.refl w).trans hx31).trans hx109).grownN hg124 (by omega)).trans hx131).grownN hg141 (by omega)).grownN hg160 (by omega)).grownN hg180 (by omega)).grownN hg198 (by omega))).at1 j v hv)) fun _ F209 => ?_; clear F205
      refine qv 1 (.int .i64 0) F209 rfl (rn_move rfl) fun _ F211 => ?_; clear F209
      refine wpList_nil ?_
      refine hK207 _ _ ?_
      clear hK207
      refine wp_block ?_
      have hmw : m = words b := words_eq hp33 (by omega)
      obtain ⟨v212, e213⟩ : ∃ z, z = (((h ++ iv).set 12 (((h ++ iv).getD 12 0) ^^^ n.toUInt32)).set 13 ((((h ++ iv).set 12 (((h ++ iv).getD 12 0) ^^^ n.toUInt32)).getD 13 0) ^^^ ((n >>> UInt64.ofNat 32).toUInt32))).set 14 (~~~ ((((h ++ iv).set 12 (((h ++ iv).getD 12 0) ^^^ n.toUInt32)).set 13 ((((h ++ iv).set 12 (((h ++ iv).getD 12 0) ^^^ n.toUInt32)).getD 13 0) ^^^ ((n >>> UInt64.ofNat 32).toUInt32))).getD 14 0)) := ⟨_, rfl⟩
      have hl214 : v212.length = 16 := (congrArg List.length e213).trans (show List.length ((((h ++ iv).set 12 (((h ++ iv).getD 12 0) ^^^ n.toUInt32)).set 13 ((((h ++ iv).set 12 (((h ++ iv).getD 12 0) ^^^ n.toUInt32)).getD 13 0) ^^^ ((n >>> UInt64.ofNat 32).toUInt32))).set 14 (~~~ ((((h ++ iv).set 12 (((h ++ iv).getD 12 0) ^^^ n.toUInt32)).set 13 ((((h ++ iv).set 12 (((h ++ iv).getD 12 0) ^^^ n.toUInt32)).getD 13 0) ^^^ ((n >>> UInt64.ofNat 32).toUInt32))).getD 14 0))) = _ from List.length_set.trans (show List.length (((h ++ iv).set 12 (((h ++ iv).getD 12 0) ^^^ n.toUInt32)).set 13 ((((h ++ iv).set 12 (((h ++ iv).getD 12 0) ^^^ n.toUInt32)).getD 13 0) ^^^ ((n >>> UInt64.ofNat 32).toUInt32))) = _ from List.length_set.trans (show List.length ((h ++ iv).set 12 (((h ++ iv).getD 12 0) ^^^ n.toUInt32)) = _ from List.length_set.trans (hiv_len hh))))
      rw [← e213] at b197
      have hv0 : v212 = begin_ h n last := by rw [e213, hc187]; exact begin_true
      have b215 := ((((((b121.grownN hg124 (by omega)).ext hx131).grownN hg141 (by omega)).grownN hg160 (by omega)).grownN hg180 (by omega)).grownN hg198 (by omega))
      have b216 := (((((((b35.ext hx109).grownN hg124 (by omega)).ext hx131).grownN hg141 (by omega)).grownN hg160 (by omega)).grownN hg180 (by omega)).grownN hg198 (by omega))
      refine wp_loop (fun a' W => ∃ (r : Nat) (v : List UInt32), Sl 149 [(0, (.pointer (some ⟨g, 0, none⟩))), (1, (.slice A b.length c)), (2, (.int .u64 (n.toNat : Nat))), (3, (.bool last)), (8, (.pointer (some ⟨g2, 0, none⟩))), (9, (.pointer (some ⟨g10, 0, none⟩))), (18, (.slice A b.length c)), (19, (.int .i64 (b.length : Nat))), (20, (.int .i64 (k : Nat))), (21, (.bool (decide (((k : Nat) : Int) < ((b.length : Nat) : Int))))), (59, (.bool last)), (12, (.func (.func 69) #[(.pointer (some ⟨g10, 0, none⟩))] #[])), (65, (.agg (byteVals permB).toArray)), (66, (.int .i64 (r : Nat)))] a' ∧ r ≤ 10 ∧ v = roundTo m v212 r ∧ Ext w W ∧ Blk W g 80 (u32Vals h) ∧ Blk W g2 90 (u32Vals m) ∧ Blk W g10 90 (u32Vals v)) (fun a' _ => 10 - (intOf (a'.eval (.tmp 66))).toNat) ⟨0, v212, ((((((((((((((F211.nil.cons (q_get F211 (t := 66) rfl (by first | rfl | (congr 1; omega) | (congr 1; done)))).cons (q_get F211 (t := 65) rfl rfl)).cons (q_get F211 (t := 12) rfl rfl)).cons (q_get F211 (t := 59) rfl rfl)).cons (q_get F211 (t := 21) rfl rfl)).cons (q_get F211 (t := 20) rfl rfl)).cons (q_get F211 (t := 19) rfl rfl)).cons (q_get F211 (t := 18) rfl rfl)).cons (q_get F211 (t := 9) rfl rfl)).cons (q_get F211 (t := 8) rfl rfl)).cons (q_get F211 (t := 3) rfl rfl)).cons (q_get F211 (t := 2) rfl rfl)).cons (q_get F211 (t := 1) rfl rfl)).cons (q_get F211 (t := 0) rfl rfl)), (by omega), rfl, (((((((((Ext.refl w).trans hx31).trans hx109).grownN hg124 (by omega)).trans hx131).grownN hg141 (by omega)).grownN hg160 (by omega)).grownN hg180 (by omega)).grownN hg198 (by omega)), b215, b216, b197⟩ ?_
      clear F211
      rintro a217 w218 ⟨r, v, F219, hp221, hp222, hx220, b223, b224, b225⟩
      have hL226 := F219
      have z227 := hx220.size
      have z228 := b223.lt
      have z229 := b224.lt
      have z230 := b225.lt
      have hvl : v.length = 16 := by rw [hp222]; exact roundTo_len hl214
      refine wp_seq_k (fun K231 hK231 => ?_)
      refine wp_region_lit ?_
      refine qv 0 (.bool (decide (((r : Nat) : Int) < (10 : Int)))) F219 rfl (rn_lss (F219.get rfl) rfl) fun _ F233 => ?_; clear F219
      refine wpList_nil ?_
      refine hK231 _ _ ?_
      clear hK231
      refine wp_seq_k (fun K234 hK234 => ?_)
      by_cases hc235 : ((r : Nat) : Int) < (10 : Int)
      · skip
        refine wp_cond_true (c_true F233 rfl (decide_eq_true hc235)) ?_
        refine wp_skip ?_
        refine hK234 _ _ ?_
        clear hK234
        refine wp_seq_k (fun K236 hK236 => ?_)
        refine wp_block ?_
        refine wp_seq_k (fun K237 hK237 => ?_)
        refine wp_region_lit ?_
        refine qv 0 (.agg (byteVals ((permB.drop (r * 16)).take 16)).toArray) F233 rfl ((rn_indexAA Tryd.underlying94 Tryd.underlying93 rfl inf93 (F233.get rfl) (F233.get rfl) (by omega : (0 : Int) ≤ (r : Nat)) (by omega : ((r : Nat) : Int) < ((10 : Nat) : Int))).trans (congrArg (fun v => Result.ok (Next.value (Value.agg v)) _) (bytes_part _ _ _))) fun _ F239 => ?_; clear F233
        refine wpl_op (i := 1) rfl (o_new (fun g => (.pointer (some ⟨g, 0, none⟩))) (byteVals (List.replicate 16 0)) 93 F239 rfl rfl rfl rfl (by kernel_rfl) ?_)
        intro g240 w241 a246 F247 z244 z245 b242 hx243; clear F239
        refine wpl_op (i := 2) rfl (o_store (cells := (byteVals ((permB.drop (r * 16)).take 16))) F247 rfl rfl rfl rfl (F247.get rfl) (F247.get rfl) b242 (inf93.trans (congrArg some (byteVals_len (len_part (i := r) (k := 16) permB_len (by omega))).symm)) ((byteVals_len (show List.length (List.replicate 16 0) = _ from List.length_replicate)).trans (byteVals_len (len_part (i := r) (k := 16) permB_len (by omega))).symm) (byteVals_one _) ?_)
        intro w248 b249 hg250; have z251 := hg250.size
        refine wpList_nil ?_
        refine hK237 _ _ ?_
        clear hK237
        refine wp_seq_k (fun K252 hK252 => ?_)
        refine wp_seq_k (fun K253 hK253 => ?_)
        refine wp_region_lit ?_
        refine qv 0 (.int .i64 0) F247 rfl (rn_move rfl) fun _ F255 => ?_; clear F247
        refine wpList_nil ?_
        refine hK253 _ _ ?_
        clear hK253
        refine wp_block ?_
        have b256 := ((b223.ext hx243).grownN hg250 (by omega))
        have b257 := ((b224.ext hx243).grownN hg250 (by omega))
        have b258 := ((b225.ext hx243).grownN hg250 (by omega))
        refine wp_loop (fun a' W => ∃ (k1 : Nat) (v1 : List UInt32), Sl 149 [(0, (.pointer (some ⟨g, 0, none⟩))), (1, (.slice A b.length c)), (2, (.int .u64 (n.toNat : Nat))), (3, (.bool last)), (8, (.pointer (some ⟨g2, 0, none⟩))), (9, (.pointer (some ⟨g10, 0, none⟩))), (18, (.slice A b.length c)), (19, (.int .i64 (b.length : Nat))), (20, (.int .i64 (k : Nat))), (21, (.bool (decide (((k : Nat) : Int) < ((b.length : Nat) : Int))))), (59, (.bool last)), (12, (.func (.func 69) #[(.pointer (some ⟨g10, 0, none⟩))] #[])), (65, (.agg (byteVals permB).toArray)), (66, (.int .i64 (r : Nat))), (67, (.bool (decide (((r : Nat) : Int) < (10 : Int))))), (14, (.pointer (some ⟨g240, 0, none⟩))), (69, (.int .i64 (k1 : Nat)))] a' ∧ k1 ≤ 4 ∧ v1 = mixTo m (permRow r) v (k1) ∧ Ext w W ∧ Blk W g 80 (u32Vals h) ∧ Blk W g2 90 (u32Vals m) ∧ Blk W g10 90 (u32Vals v1) ∧ Blk W g240 93 (byteVals ((permB.drop (r * 16)).take 16))) (fun a' _ => 4 - (intOf (a'.eval (.tmp 69))).toNat) ⟨0, v, (((((((((((((((((F255.nil.cons (q_get F255 (t := 69) rfl (by first | rfl | (congr 1; omega) | (congr 1; done)))).cons (q_get F255 (t := 14) rfl rfl)).cons (q_get F255 (t := 67) rfl rfl)).cons (q_get F255 (t := 66) rfl rfl)).cons (q_get F255 (t := 65) rfl rfl)).cons (q_get F255 (t := 12) rfl rfl)).cons (q_get F255 (t := 59) rfl rfl)).cons (q_get F255 (t := 21) rfl rfl)).cons (q_get F255 (t := 20) rfl rfl)).cons (q_get F255 (t := 19) rfl rfl)).cons (q_get F255 (t := 18) rfl rfl)).cons (q_get F255 (t := 9) rfl rfl)).cons (q_get F255 (t := 8) rfl rfl)).cons (q_get F255 (t := 3) rfl rfl)).cons (q_get F255 (t := 2) rfl rfl)).cons (q_get F255 (t := 1) rfl rfl)).cons (q_get F255 (t := 0) rfl rfl)), (by omega), rfl, ((((Ext.refl w).trans hx220).trans hx243).grownN hg250 (by omega)), b256, b257, b258, b249⟩ ?_
        clear F255
        rintro a259 w260 ⟨k1, v1, F261, hp263, hp264, hx262, b265, b266, b267, b268⟩
        have hL269 := F261
        have z270 := hx262.size
        have z271 := b265.lt
        have z272 := b266.lt
        have z273 := b267.lt
        have z274 := b268.lt
        have hlv1 : v1.length = 16 := by rw [hp264]; exact mixTo_len hvl
        refine wp_seq_k (fun K275 hK275 => ?_)
        refine wp_region_lit ?_
        refine qv 0 (.bool (decide (((k1 : Nat) : Int) < (4 : Int)))) F261 rfl (rn_lss (F261.get rfl) rfl) fun _ F277 => ?_; clear F261
        refine wpList_nil ?_
        refine hK275 _ _ ?_
        clear hK275
        refine wp_seq_k (fun K278 hK278 => ?_)
        by_cases hc279 : ((k1 : Nat) : Int) < (4 : Int)
        · skip
          refine wp_cond_true (c_true F277 rfl (decide_eq_true hc279)) ?_
          refine wp_skip ?_
          refine hK278 _ _ ?_
          clear hK278
          refine wp_seq_k (fun K280 hK280 => ?_)
          refine wp_block ?_
          refine wp_seq_k (fun K281 hK281 => ?_)
          refine wp_region_lit ?_
          refine qv 0 (.int .i64 (k1 : Nat)) F277 rfl (rn_move (F277.get rfl)) fun _ F283 => ?_; clear F277
          refine qv 1 (.int .i64 (k1 : Nat)) F283 rfl (rn_assign (F283.get rfl)) fun _ F285 => ?_; clear F283
          refine wpList_nil ?_
          refine hK281 _ _ ?_
          clear hK281
          have z286 := perm_lt (r := r) (by omega) (j := 2 * k1) (by omega)
          have z287 := perm_lt (r := r) (by omega) (j := (2 * k1) + 1) (by omega)
          have hx289 : ∃ W, w260.drew = W ∧ Ext w260 W := ⟨_, rfl, (Ext.refl _).drew⟩
          obtain ⟨w288, e290, hx289⟩ := hx289
          have z291 := hx289.size
          refine any_start (fun W => True ∧ Blk W g240 93 (byteVals ((permB.drop (r * 16)).take 16)) ∧ Blk W g2 90 (u32Vals m)) (fun i => false) 22 #[false, false, false, false, false, false, false, false, false, false, false, false, false, false, false, false, false, false, false, false, false, false] rfl rfl rfl ?_
          rw [e290]; clear e290
          refine qp 0 (.func (.func 69) #[(.pointer (some ⟨g10, 0, none⟩))] #[]) F285 rfl rfl (fun W => (rn_move (F285.get rfl))) fun _ F293 => ?_; clear F285
          refine qp 1 (.int .i64 (k1 : Nat)) F293 rfl rfl (fun W => (rn_move (F293.get rfl))) fun _ F295 => ?_; clear F293
          refine qp 2 (.int .i64 (k1 : Nat)) F295 rfl rfl (fun W => (rn_move (F295.get rfl))) fun _ F297 => ?_; clear F295
          refine qp 3 (.int .i64 (4 + k1 : Nat)) F297 rfl rfl (fun W => (rn_addN (a := 4) (b := k1) rfl (F297.get rfl) (by omega))) fun _ F299 => ?_; clear F297
          refine qp 4 (.int .i64 (k1 : Nat)) F299 rfl rfl (fun W => (rn_move (F299.get rfl))) fun _ F301 => ?_; clear F299
          refine qp 5 (.int .i64 (8 + k1 : Nat)) F301 rfl rfl (fun W => (rn_addN (a := 8) (b := k1) rfl (F301.get rfl) (by omega))) fun _ F303 => ?_; clear F301
          refine qp 6 (.int .i64 (k1 : Nat)) F303 rfl rfl (fun W => (rn_move (F303.get rfl))) fun _ F305 => ?_; clear F303
          refine qp 7 (.int .i64 (12 + k1 : Nat)) F305 rfl rfl (fun W => (rn_addN (a := 12) (b := k1) rfl (F305.get rfl) (by omega))) fun _ F307 => ?_; clear F305
          refine qp 8 (.int .i64 (k1 : Nat)) F307 rfl rfl (fun W => (rn_move (F307.get rfl))) fun _ F309 => ?_; clear F307
          refine qp 9 (.int .i64 (2 * k1 : Nat)) F309 rfl rfl (fun W => (rn_mulN (a := 2) (b := k1) rfl (F309.get rfl) (by omega))) fun _ F311 => ?_; clear F309
          refine qp 10 (.pointer (some ⟨g240, 0 + (2 * k1), none⟩)) F311 rfl rfl (fun W => (rn_indexArr Tryd.underlying93 inf5 (F311.get rfl) (F311.get rfl) (by omega : (0 : Int) ≤ (2 * k1 : Nat)) (by omega : ((2 * k1 : Nat) : Int) < ((16 : Nat) : Int)))) fun _ F313 => ?_; clear F311
          have b315 := (b268.ext hx289)
          have b316 := (b266.ext hx289)
          have hS314 : True ∧ Blk w288 g240 93 (byteVals ((permB.drop (r * 16)).take 16)) ∧ Blk w288 g2 90 (u32Vals m) := ⟨trivial, b315, b316⟩
          refine qs 11 (.int .u8 ((((permB.drop (r * 16)).take 16).getD (2 * k1) 0).toNat : Nat)) F313 rfl rfl hS314 (fun W hW => (rn_load (isAgg_no Tryd.underlying5 rfl) (F313.get rfl) (blk_byte hW.2.1 (by omega) (by have := (show List.length ((permB.drop (r * 16)).take 16) = _ from (len_part (i := r) (k := 16) permB_len (by omega))); omega)))) fun _ F318 => ?_; clear F313
          refine qp 12 (.pointer (some ⟨g2, 0 + ((((permB.drop (r * 16)).take 16).getD (2 * k1) 0).toNat), none⟩)) F318 rfl rfl (fun W => (rn_indexArr Tryd.underlying90 inf79 (F318.get rfl) (F318.get rfl) (by omega : (0 : Int) ≤ ((((permB.drop (r * 16)).take 16).getD (2 * k1) 0).toNat : Nat)) (by omega : (((((permB.drop (r * 16)).take 16).getD (2 * k1) 0).toNat : Nat) : Int) < ((16 : Nat) : Int)))) fun _ F320 => ?_; clear F318
          refine qs 13 (.int .u32 ((m.getD ((((permB.drop (r * 16)).take 16).getD (2 * k1) 0).toNat) 0).toNat : Nat)) F320 rfl rfl hS314 (fun W hW => (rn_load (isAgg_no Tryd.underlying79 rfl) (F320.get rfl) (blk_word hW.2.2 (by omega) (by have := (show List.length m = _ from hm); omega)))) fun _ F322 => ?_; clear F320
          refine qp 14 (.int .i64 (k1 : Nat)) F322 rfl rfl (fun W => (rn_move (F322.get rfl))) fun _ F324 => ?_; clear F322
          refine qp 15 (.int .i64 (2 * k1 : Nat)) F324 rfl rfl (fun W => (rn_mulN (a := 2) (b := k1) rfl (F324.get rfl) (by omega))) fun _ F326 => ?_; clear F324
          refine qp 16 (.int .i64 ((2 * k1) + 1 : Nat)) F326 rfl rfl (fun W => (rn_addN (a := 2 * k1) (b := 1) (F326.get rfl) rfl (by omega))) fun _ F328 => ?_; clear F326
          refine qp 17 (.pointer (some ⟨g240, 0 + ((2 * k1) + 1), none⟩)) F328 rfl rfl (fun W => (rn_indexArr Tryd.underlying93 inf5 (F328.get rfl) (F328.get rfl) (by omega : (0 : Int) ≤ ((2 * k1) + 1 : Nat)) (by omega : (((2 * k1) + 1 : Nat) : Int) < ((16 : Nat) : Int)))) fun _ F330 => ?_; clear F328
          refine qs 18 (.int .u8 ((((permB.drop (r * 16)).take 16).getD ((2 * k1) + 1) 0).toNat : Nat)) F330 rfl rfl hS314 (fun W hW => (rn_load (isAgg_no Tryd.underlying5 rfl) (F330.get rfl) (blk_byte hW.2.1 (by omega) (by have := (show List.length ((permB.drop (r * 16)).take 16) = _ from (len_part (i := r) (k := 16) permB_len (by omega))); omega)))) fun _ F332 => ?_; clear F330
          refine qp 19 (.pointer (some ⟨g2, 0 + ((((permB.drop (r * 16)).take 16).getD ((2 * k1) + 1) 0).toNat), none⟩)) F332 rfl rfl (fun W => (rn_indexArr Tryd.underlying90 inf79 (F332.get rfl) (F332.get rfl) (by omega : (0 : Int) ≤ ((((permB.drop (r * 16)).take 16).getD ((2 * k1) + 1) 0).toNat : Nat)) (by omega : (((((permB.drop (r * 16)).take 16).getD ((2 * k1) + 1) 0).toNat : Nat) : Int) < ((16 : Nat) : Int)))) fun _ F334 => ?_; clear F332
          refine qs 20 (.int .u32 ((m.getD ((((permB.drop (r * 16)).take 16).getD ((2 * k1) + 1) 0).toNat) 0).toNat : Nat)) F334 rfl rfl hS314 (fun W hW => (rn_load (isAgg_no Tryd.underlying79 rfl) (F334.get rfl) (blk_word hW.2.2 (by omega) (by have := (show List.length m = _ from hm); omega)))) fun _ F336 => ?_; clear F334
          refine any_one (i := 21) (by decide +kernel) rfl ?_
          have b337 := (b267.ext hx289)
          refine o_call F336 rfl rfl rfl rfl (rn_callv (F336.get rfl) (args1_6 (F336.get rfl) (F336.get rfl) (F336.get rfl) (F336.get rfl) (F336.get rfl) (F336.get rfl)) (by kernel_rfl)) (mix_any g10 v1 k1 (4 + k1) (8 + k1) (12 + k1) (m.getD ((((permB.drop (r * 16)).take 16).getD (2 * k1) 0).toNat) 0) (m.getD ((((permB.drop (r * 16)).take 16).getD ((2 * k1) + 1) 0).toNat) 0) _ b337 hlv1 (by omega) (by omega) (by omega) (by omega)) ?_
          rintro _ w338 ⟨rfl, b339, hg340⟩
          refine ⟨_, rfl, ?_⟩; intro a341 F342; clear F336; have z343 := hg340.size
          have b344 := (b315.grownN hg340 (by omega))
          have b345 := (b316.grownN hg340 (by omega))
          refine ⟨fun _ _ => ⟨trivial, b344, b345⟩, ?_⟩
          refine any_nil (by decide +kernel) ?_
          refine hK280 _ _ ?_
          clear hK280
          have F346 := (((((((((((((((((((F342.nil.c F342 15 rfl).c F342 70 rfl).c F342 69 rfl).c F342 14 rfl).c F342 67 rfl).c F342 66 rfl).c F342 65 rfl).c F342 12 rfl).c F342 59 rfl).c F342 21 rfl).c F342 20 rfl).c F342 19 rfl).c F342 18 rfl).c F342 9 rfl).c F342 8 rfl).c F342 3 rfl).c F342 2 rfl).c F342 1 rfl).c F342 0 rfl)
          clear F342
          refine wp_region_lit ?_
          refine qv 0 (.int .i64 (k1 + 1 : Nat)) F346 rfl (rn_addN (a := k1) (b := 1) (F346.get rfl) rfl (by omega)) fun _ F348 => ?_; clear F346
          refine qv 1 (.int .i64 (k1 + 1 : Nat)) F348 rfl (rn_move (F348.get rfl)) fun _ F350 => ?_; clear F348
          refine wpList_nil ?_
          obtain ⟨v351, e352⟩ : ∃ z, z = mixSeq v1 k1 (4 + k1) (8 + k1) (12 + k1) (m.getD ((((permB.drop (r * 16)).take 16).getD (2 * k1) 0).toNat) 0) (m.getD ((((permB.drop (r * 16)).take 16).getD ((2 * k1) + 1) 0).toNat) 0) := ⟨_, rfl⟩
          have hl353 : v351.length = 16 := (congrArg List.length e352).trans ((mixSeq_len _ _ _ _ _ _ _).trans hlv1)
          rw [← e352] at b339
          have b354 := ((b265.ext hx289).grownN hg340 (by omega))
          refine ⟨⟨k1 + 1, v351, (((((((((((((((((F350.nil.cons (q_get F350 (t := 69) rfl (by first | rfl | (congr 1; omega) | (congr 1; done)))).cons (q_get F350 (t := 14) rfl rfl)).cons (q_get F350 (t := 67) rfl rfl)).cons (q_get F350 (t := 66) rfl rfl)).cons (q_get F350 (t := 65) rfl rfl)).cons (q_get F350 (t := 12) rfl rfl)).cons (q_get F350 (t := 59) rfl rfl)).cons (q_get F350 (t := 21) rfl rfl)).cons (q_get F350 (t := 20) rfl rfl)).cons (q_get F350 (t := 19) rfl rfl)).cons (q_get F350 (t := 18) rfl rfl)).cons (q_get F350 (t := 9) rfl rfl)).cons (q_get F350 (t := 8) rfl rfl)).cons (q_get F350 (t := 3) rfl rfl)).cons (q_get F350 (t := 2) rfl rfl)).cons (q_get F350 (t := 1) rfl rfl)).cons (q_get F350 (t := 0) rfl rfl)), (by omega), (mixTo_step1 (by omega) (by omega) hvl hp264 e352), ((((Ext.refl w).trans hx262).trans hx289).grownN hg340 (by omega)), b354, b345, b339, b344⟩, ?_⟩
          rw [F350.get (t := 69) rfl, hL269.get (t := 69) rfl]; simp [intOf]; omega
        · skip
          refine wp_cond_false (c_false F277 rfl (decide_eq_false hc279)) ?_
          refine wp_exit ?_
          refine exit_then ?_
          refine exit_then ?_
          refine exit_here ?_
          refine hK252 _ _ ?_
          clear hK252
          refine wp_seq_k (fun K355 hK355 => ?_)
          refine wp_region_lit ?_
          refine qv 0 (.int .i64 0) F277 rfl (rn_move rfl) fun _ F357 => ?_; clear F277
          refine wpList_nil ?_
          refine hK355 _ _ ?_
          clear hK355
          refine wp_block ?_
          have hi4 : v1 = mixTo m (permRow r) v (4 + 0) := by rw [hp264, show k1 = 4 + 0 from by omega]
          refine wp_loop (fun a' W => ∃ (k2 : Nat) (v2 : List UInt32), Sl 149 [(0, (.pointer (some ⟨g, 0, none⟩))), (1, (.slice A b.length c)), (2, (.int .u64 (n.toNat : Nat))), (3, (.bool last)), (8, (.pointer (some ⟨g2, 0, none⟩))), (9, (.pointer (some ⟨g10, 0, none⟩))), (18, (.slice A b.length c)), (19, (.int .i64 (b.length : Nat))), (20, (.int .i64 (k : Nat))), (21, (.bool (decide (((k : Nat) : Int) < ((b.length : Nat) : Int))))), (59, (.bool last)), (12, (.func (.func 69) #[(.pointer (some ⟨g10, 0, none⟩))] #[])), (65, (.agg (byteVals permB).toArray)), (66, (.int .i64 (r : Nat))), (67, (.bool (decide (((r : Nat) : Int) < (10 : Int))))), (14, (.pointer (some ⟨g240, 0, none⟩))), (69, (.int .i64 (k1 : Nat))), (70, (.bool (decide (((k1 : Nat) : Int) < (4 : Int))))), (95, (.int .i64 (k2 : Nat)))] a' ∧ k2 ≤ 4 ∧ v2 = mixTo m (permRow r) v (4 + k2) ∧ Ext w W ∧ Blk W g 80 (u32Vals h) ∧ Blk W g2 90 (u32Vals m) ∧ Blk W g10 90 (u32Vals v2) ∧ Blk W g240 93 (byteVals ((permB.drop (r * 16)).take 16))) (fun a' _ => 4 - (intOf (a'.eval (.tmp 95))).toNat) ⟨0, v1, (((((((((((((((((((F357.nil.cons (q_get F357 (t := 95) rfl (by first | rfl | (congr 1; omega) | (congr 1; done)))).cons (q_get F357 (t := 70) rfl rfl)).cons (q_get F357 (t := 69) rfl rfl)).cons (q_get F357 (t := 14) rfl rfl)).cons (q_get F357 (t := 67) rfl rfl)).cons (q_get F357 (t := 66) rfl rfl)).cons (q_get F357 (t := 65) rfl rfl)).cons (q_get F357 (t := 12) rfl rfl)).cons (q_get F357 (t := 59) rfl rfl)).cons (q_get F357 (t := 21) rfl rfl)).cons (q_get F357 (t := 20) rfl rfl)).cons (q_get F357 (t := 19) rfl rfl)).cons (q_get F357 (t := 18) rfl rfl)).cons (q_get F357 (t := 9) rfl rfl)).cons (q_get F357 (t := 8) rfl rfl)).cons (q_get F357 (t := 3) rfl rfl)).cons (q_get F357 (t := 2) rfl rfl)).cons (q_get F357 (t := 1) rfl rfl)).cons (q_get F357 (t := 0) rfl rfl)), (by omega), hi4, ((Ext.refl w).trans hx262), b265, b266, b267, b268⟩ ?_
          clear F357
          rintro a358 w359 ⟨k2, v2, F360, hp362, hp363, hx361, b364, b365, b366, b367⟩
          have hL368 := F360
          have z369 := hx361.size
          have z370 := b364.lt
          have z371 := b365.lt
          have z372 := b366.lt
          have z373 := b367.lt
          have hlv2 : v2.length = 16 := by rw [hp363]; exact mixTo_len hvl
          refine wp_seq_k (fun K374 hK374 => ?_)
          refine wp_region_lit ?_
          refine qv 0 (.bool (decide (((k2 : Nat) : Int) < (4 : Int)))) F360 rfl (rn_lss (F360.get rfl) rfl) fun _ F376 => ?_; clear F360
          refine wpList_nil ?_
          refine hK374 _ _ ?_
          clear hK374
          refine wp_seq_k (fun K377 hK377 => ?_)
          by_cases hc378 : ((k2 : Nat) : Int) < (4 : Int)
          · skip
            refine wp_cond_true (c_true F376 rfl (decide_eq_true hc378)) ?_
            refine wp_skip ?_
            refine hK377 _ _ ?_
            clear hK377
            refine wp_seq_k (fun K379 hK379 => ?_)
            refine wp_block ?_
            refine wp_seq_k (fun K380 hK380 => ?_)
            refine wp_region_lit ?_
            refine qv 0 (.int .i64 (k2 : Nat)) F376 rfl (rn_move (F376.get rfl)) fun _ F382 => ?_; clear F376
            refine qv 1 (.int .i64 (k2 : Nat)) F382 rfl (rn_assign (F382.get rfl)) fun _ F384 => ?_; clear F382
            refine wpList_nil ?_
            refine hK380 _ _ ?_
            clear hK380
            have z385 := perm_lt (r := r) (by omega) (j := 8 + (2 * k2)) (by omega)
            have z386 := perm_lt (r := r) (by omega) (j := 9 + (2 * k2)) (by omega)
            have hx388 : ∃ W, w359.drew = W ∧ Ext w359 W := ⟨_, rfl, (Ext.refl _).drew⟩
            obtain ⟨w387, e389, hx388⟩ := hx388
            have z390 := hx388.size
            refine any_start (fun W => True ∧ Blk W g240 93 (byteVals ((permB.drop (r * 16)).take 16)) ∧ Blk W g2 90 (u32Vals m)) (fun i => false) 29 #[false, false, false, false, false, false, false, false, false, false, false, false, false, false, false, false, false, false, false, false, false, false, false, false, false, false, false, false, false] rfl rfl rfl ?_
            rw [e389]; clear e389
            refine qp 0 (.func (.func 69) #[(.pointer (some ⟨g10, 0, none⟩))] #[]) F384 rfl rfl (fun W => (rn_move (F384.get rfl))) fun _ F392 => ?_; clear F384
            refine qp 1 (.int .i64 (k2 : Nat)) F392 rfl rfl (fun W => (rn_move (F392.get rfl))) fun _ F394 => ?_; clear F392
            refine qp 2 (.int .i64 (k2 : Nat)) F394 rfl rfl (fun W => (rn_move (F394.get rfl))) fun _ F396 => ?_; clear F394
            refine qp 3 (.int .i64 (k2 + 1 : Nat)) F396 rfl rfl (fun W => (rn_addN (a := k2) (b := 1) (F396.get rfl) rfl (by omega))) fun _ F398 => ?_; clear F396
            refine qp 4 (.int .i64 ((k2 + 1) % 4 : Nat)) F398 rfl rfl (fun W => (rn_remN (a := k2 + 1) (b := 4) (F398.get rfl) rfl (by omega))) fun _ F400 => ?_; clear F398
            refine qp 5 (.int .i64 (4 + ((k2 + 1) % 4) : Nat)) F400 rfl rfl (fun W => (rn_addN (a := 4) (b := (k2 + 1) % 4) rfl (F400.get rfl) (by omega))) fun _ F402 => ?_; clear F400
            refine qp 6 (.int .i64 (k2 : Nat)) F402 rfl rfl (fun W => (rn_move (F402.get rfl))) fun _ F404 => ?_; clear F402
            refine qp 7 (.int .i64 (k2 + 2 : Nat)) F404 rfl rfl (fun W => (rn_addN (a := k2) (b := 2) (F404.get rfl) rfl (by omega))) fun _ F406 => ?_; clear F404
            refine qp 8 (.int .i64 ((k2 + 2) % 4 : Nat)) F406 rfl rfl (fun W => (rn_remN (a := k2 + 2) (b := 4) (F406.get rfl) rfl (by omega))) fun _ F408 => ?_; clear F406
            refine qp 9 (.int .i64 (8 + ((k2 + 2) % 4) : Nat)) F408 rfl rfl (fun W => (rn_addN (a := 8) (b := (k2 + 2) % 4) rfl (F408.get rfl) (by omega))) fun _ F410 => ?_; clear F408
            refine qp 10 (.int .i64 (k2 : Nat)) F410 rfl rfl (fun W => (rn_move (F410.get rfl))) fun _ F412 => ?_; clear F410
            refine qp 11 (.int .i64 (k2 + 3 : Nat)) F412 rfl rfl (fun W => (rn_addN (a := k2) (b := 3) (F412.get rfl) rfl (by omega))) fun _ F414 => ?_; clear F412
            refine qp 12 (.int .i64 ((k2 + 3) % 4 : Nat)) F414 rfl rfl (fun W => (rn_remN (a := k2 + 3) (b := 4) (F414.get rfl) rfl (by omega))) fun _ F416 => ?_; clear F414
            refine qp 13 (.int .i64 (12 + ((k2 + 3) % 4) : Nat)) F416 rfl rfl (fun W => (rn_addN (a := 12) (b := (k2 + 3) % 4) rfl (F416.get rfl) (by omega))) fun _ F418 => ?_; clear F416
            refine qp 14 (.int .i64 (k2 : Nat)) F418 rfl rfl (fun W => (rn_move (F418.get rfl))) fun _ F420 => ?_; clear F418
            refine qp 15 (.int .i64 (2 * k2 : Nat)) F420 rfl rfl (fun W => (rn_mulN (a := 2) (b := k2) rfl (F420.get rfl) (by omega))) fun _ F422 => ?_; clear F420
            refine qp 16 (.int .i64 (8 + (2 * k2) : Nat)) F422 rfl rfl (fun W => (rn_addN (a := 8) (b := 2 * k2) rfl (F422.get rfl) (by omega))) fun _ F424 => ?_; clear F422
            refine qp 17 (.pointer (some ⟨g240, 0 + (8 + (2 * k2)), none⟩)) F424 rfl rfl (fun W => (rn_indexArr Tryd.underlying93 inf5 (F424.get rfl) (F424.get rfl) (by omega : (0 : Int) ≤ (8 + (2 * k2) : Nat)) (by omega : ((8 + (2 * k2) : Nat) : Int) < ((16 : Nat) : Int)))) fun _ F426 => ?_; clear F424
            have b428 := (b367.ext hx388)
            have b429 := (b365.ext hx388)
            have hS427 : True ∧ Blk w387 g240 93 (byteVals ((permB.drop (r * 16)).take 16)) ∧ Blk w387 g2 90 (u32Vals m) := ⟨trivial, b428, b429⟩
            refine qs 18 (.int .u8 ((((permB.drop (r * 16)).take 16).getD (8 + (2 * k2)) 0).toNat : Nat)) F426 rfl rfl hS427 (fun W hW => (rn_load (isAgg_no Tryd.underlying5 rfl) (F426.get rfl) (blk_byte hW.2.1 (by omega) (by have := (show List.length ((permB.drop (r * 16)).take 16) = _ from (len_part (i := r) (k := 16) permB_len (by omega))); omega)))) fun _ F431 => ?_; clear F426
            refine qp 19 (.pointer (some ⟨g2, 0 + ((((permB.drop (r * 16)).take 16).getD (8 + (2 * k2)) 0).toNat), none⟩)) F431 rfl rfl (fun W => (rn_indexArr Tryd.underlying90 inf79 (F431.get rfl) (F431.get rfl) (by omega : (0 : Int) ≤ ((((permB.drop (r * 16)).take 16).getD (8 + (2 * k2)) 0).toNat : Nat)) (by omega : (((((permB.drop (r * 16)).take 16).getD (8 + (2 * k2)) 0).toNat : Nat) : Int) < ((16 : Nat) : Int)))) fun _ F433 => ?_; clear F431
            refine qs 20 (.int .u32 ((m.getD ((((permB.drop (r * 16)).take 16).getD (8 + (2 * k2)) 0).toNat) 0).toNat : Nat)) F433 rfl rfl hS427 (fun W hW => (rn_load (isAgg_no Tryd.underlying79 rfl) (F433.get rfl) (blk_word hW.2.2 (by omega) (by have := (show List.length m = _ from hm); omega)))) fun _ F435 => ?_; clear F433
            refine qp 21 (.int .i64 (k2 : Nat)) F435 rfl rfl (fun W => (rn_move (F435.get rfl))) fun _ F437 => ?_; clear F435
            refine qp 22 (.int .i64 (2 * k2 : Nat)) F437 rfl rfl (fun W => (rn_mulN (a := 2) (b := k2) rfl (F437.get rfl) (by omega))) fun _ F439 => ?_; clear F437
            refine qp 23 (.int .i64 (9 + (2 * k2) : Nat)) F439 rfl rfl (fun W => (rn_addN (a := 9) (b := 2 * k2) rfl (F439.get rfl) (by omega))) fun _ F441 => ?_; clear F439
            refine qp 24 (.pointer (some ⟨g240, 0 + (9 + (2 * k2)), none⟩)) F441 rfl rfl (fun W => (rn_indexArr Tryd.underlying93 inf5 (F441.get rfl) (F441.get rfl) (by omega : (0 : Int) ≤ (9 + (2 * k2) : Nat)) (by omega : ((9 + (2 * k2) : Nat) : Int) < ((16 : Nat) : Int)))) fun _ F443 => ?_; clear F441
            refine qs 25 (.int .u8 ((((permB.drop (r * 16)).take 16).getD (9 + (2 * k2)) 0).toNat : Nat)) F443 rfl rfl hS427 (fun W hW => (rn_load (isAgg_no Tryd.underlying5 rfl) (F443.get rfl) (blk_byte hW.2.1 (by omega) (by have := (show List.length ((permB.drop (r * 16)).take 16) = _ from (len_part (i := r) (k := 16) permB_len (by omega))); omega)))) fun _ F445 => ?_; clear F443
            refine qp 26 (.pointer (some ⟨g2, 0 + ((((permB.drop (r * 16)).take 16).getD (9 + (2 * k2)) 0).toNat), none⟩)) F445 rfl rfl (fun W => (rn_indexArr Tryd.underlying90 inf79 (F445.get rfl) (F445.get rfl) (by omega : (0 : Int) ≤ ((((permB.drop (r * 16)).take 16).getD (9 + (2 * k2)) 0).toNat : Nat)) (by omega : (((((permB.drop (r * 16)).take 16).getD (9 + (2 * k2)) 0).toNat : Nat) : Int) < ((16 : Nat) : Int)))) fun _ F447 => ?_; clear F445
            refine qs 27 (.int .u32 ((m.getD ((((permB.drop (r * 16)).take 16).getD (9 + (2 * k2)) 0).toNat) 0).toNat : Nat)) F447 rfl rfl hS427 (fun W hW => (rn_load (isAgg_no Tryd.underlying79 rfl) (F447.get rfl) (blk_word hW.2.2 (by omega) (by have := (show List.length m = _ from hm); omega)))) fun _ F449 => ?_; clear F447
            refine any_one (i := 28) (by decide +kernel) rfl ?_
            have b450 := (b366.ext hx388)
            refine o_call F449 rfl rfl rfl rfl (rn_callv (F449.get rfl) (args1_6 (F449.get rfl) (F449.get rfl) (F449.get rfl) (F449.get rfl) (F449.get rfl) (F449.get rfl)) (by kernel_rfl)) (mix_any g10 v2 k2 (4 + ((k2 + 1) % 4)) (8 + ((k2 + 2) % 4)) (12 + ((k2 + 3) % 4)) (m.getD ((((permB.drop (r * 16)).take 16).getD (8 + (2 * k2)) 0).toNat) 0) (m.getD ((((permB.drop (r * 16)).take 16).getD (9 + (2 * k2)) 0).toNat) 0) _ b450 hlv2 (by omega) (by omega) (by omega) (by omega)) ?_
            rintro _ w451 ⟨rfl, b452, hg453⟩
            refine ⟨_, rfl, ?_⟩; intro a454 F455; clear F449; have z456 := hg453.size
            have b457 := (b428.grownN hg453 (by omega))
            have b458 := (b429.grownN hg453 (by omega))
            refine ⟨fun _ _ => ⟨trivial, b457, b458⟩, ?_⟩
            refine any_nil (by decide +kernel) ?_
            refine hK379 _ _ ?_
            clear hK379
            have F459 := (((((((((((((((((((((F455.nil.c F455 16 rfl).c F455 96 rfl).c F455 95 rfl).c F455 70 rfl).c F455 69 rfl).c F455 14 rfl).c F455 67 rfl).c F455 66 rfl).c F455 65 rfl).c F455 12 rfl).c F455 59 rfl).c F455 21 rfl).c F455 20 rfl).c F455 19 rfl).c F455 18 rfl).c F455 9 rfl).c F455 8 rfl).c F455 3 rfl).c F455 2 rfl).c F455 1 rfl).c F455 0 rfl)
            clear F455
            refine wp_region_lit ?_
            refine qv 0 (.int .i64 (k2 + 1 : Nat)) F459 rfl (rn_addN (a := k2) (b := 1) (F459.get rfl) rfl (by omega)) fun _ F461 => ?_; clear F459
            refine qv 1 (.int .i64 (k2 + 1 : Nat)) F461 rfl (rn_move (F461.get rfl)) fun _ F463 => ?_; clear F461
            refine wpList_nil ?_
            obtain ⟨v464, e465⟩ : ∃ z, z = mixSeq v2 k2 (4 + ((k2 + 1) % 4)) (8 + ((k2 + 2) % 4)) (12 + ((k2 + 3) % 4)) (m.getD ((((permB.drop (r * 16)).take 16).getD (8 + (2 * k2)) 0).toNat) 0) (m.getD ((((permB.drop (r * 16)).take 16).getD (9 + (2 * k2)) 0).toNat) 0) := ⟨_, rfl⟩
            have hl466 : v464.length = 16 := (congrArg List.length e465).trans ((mixSeq_len _ _ _ _ _ _ _).trans hlv2)
            rw [← e465] at b452
            have b467 := ((b364.ext hx388).grownN hg453 (by omega))
            refine ⟨⟨k2 + 1, v464, (((((((((((((((((((F463.nil.cons (q_get F463 (t := 95) rfl (by first | rfl | (congr 1; omega) | (congr 1; done)))).cons (q_get F463 (t := 70) rfl rfl)).cons (q_get F463 (t := 69) rfl rfl)).cons (q_get F463 (t := 14) rfl rfl)).cons (q_get F463 (t := 67) rfl rfl)).cons (q_get F463 (t := 66) rfl rfl)).cons (q_get F463 (t := 65) rfl rfl)).cons (q_get F463 (t := 12) rfl rfl)).cons (q_get F463 (t := 59) rfl rfl)).cons (q_get F463 (t := 21) rfl rfl)).cons (q_get F463 (t := 20) rfl rfl)).cons (q_get F463 (t := 19) rfl rfl)).cons (q_get F463 (t := 18) rfl rfl)).cons (q_get F463 (t := 9) rfl rfl)).cons (q_get F463 (t := 8) rfl rfl)).cons (q_get F463 (t := 3) rfl rfl)).cons (q_get F463 (t := 2) rfl rfl)).cons (q_get F463 (t := 1) rfl rfl)).cons (q_get F463 (t := 0) rfl rfl)), (by omega), (mixTo_step2 (by omega) (by omega) hvl hp363 e465), ((((Ext.refl w).trans hx361).trans hx388).grownN hg453 (by omega)), b467, b458, b452, b457⟩, ?_⟩
            rw [F463.get (t := 95) rfl, hL368.get (t := 95) rfl]; simp [intOf]; omega
          · skip
            have hv8 : v2 = mixTo m (permRow r) v 8 := by rw [hp363, show 4 + k2 = 8 from by omega]
            refine wp_cond_false (c_false F376 rfl (decide_eq_false hc378)) ?_
            refine wp_exit ?_
            refine exit_then ?_
            refine exit_then ?_
            refine exit_here ?_
            refine hK236 _ _ ?_
            clear hK236
            refine wp_region_lit ?_
            refine qv 0 (.int .i64 (r + 1 : Nat)) F376 rfl (rn_addN (a := r) (b := 1) (F376.get rfl) rfl (by omega)) fun _ F469 => ?_; clear F376
            refine qv 1 (.int .i64 (r + 1 : Nat)) F469 rfl (rn_move (F469.get rfl)) fun _ F471 => ?_; clear F469
            refine wpList_nil ?_
            refine ⟨⟨r + 1, v2, ((((((((((((((F471.nil.cons (q_get F471 (t := 66) rfl (by first | rfl | (congr 1; omega) | (congr 1; done)))).cons (q_get F471 (t := 65) rfl rfl)).cons (q_get F471 (t := 12) rfl rfl)).cons (q_get F471 (t := 59) rfl rfl)).cons (q_get F471 (t := 21) rfl rfl)).cons (q_get F471 (t := 20) rfl rfl)).cons (q_get F471 (t := 19) rfl rfl)).cons (q_get F471 (t := 18) rfl rfl)).cons (q_get F471 (t := 9) rfl rfl)).cons (q_get F471 (t := 8) rfl rfl)).cons (q_get F471 (t := 3) rfl rfl)).cons (q_get F471 (t := 2) rfl rfl)).cons (q_get F471 (t := 1) rfl rfl)).cons (q_get F471 (t := 0) rfl rfl)), (by omega), (roundTo_step (by omega) hp222 hv8), ((Ext.refl w).trans hx361), b364, b365, b366⟩, ?_⟩
            rw [F471.get (t := 66) rfl, hL226.get (t := 66) rfl]; simp [intOf]; omega
      · skip
        refine wp_cond_false (c_false F233 rfl (decide_eq_false hc235)) ?_
        refine wp_exit ?_
        refine exit_then ?_
        refine exit_then ?_
        refine exit_here ?_
        refine hK206 _ _ ?_
        clear hK206
        refine wp_seq_k (fun K472 hK472 => ?_)
        refine wp_region_lit ?_
        refine qv 0 (.int .i64 0) F233 rfl (rn_move rfl) fun _ F474 => ?_; clear F233
        refine wpList_nil ?_
        refine hK472 _ _ ?_
        clear hK472
        refine wp_block ?_
        have hv10 : v = roundTo (words b) (begin_ h n last) 10 := by rw [hp222, hv0, hmw, show r = 10 from by omega]
        refine wp_loop (fun a' W => ∃ (k5 : Nat) (hh2 : List UInt32), Sl 149 [(0, (.pointer (some ⟨g, 0, none⟩))), (1, (.slice A b.length c)), (2, (.int .u64 (n.toNat : Nat))), (3, (.bool last)), (8, (.pointer (some ⟨g2, 0, none⟩))), (9, (.pointer (some ⟨g10, 0, none⟩))), (18, (.slice A b.length c)), (19, (.int .i64 (b.length : Nat))), (20, (.int .i64 (k : Nat))), (21, (.bool (decide (((k : Nat) : Int) < ((b.length : Nat) : Int))))), (59, (.bool last)), (12, (.func (.func 69) #[(.pointer (some ⟨g10, 0, none⟩))] #[])), (65, (.agg (byteVals permB).toArray)), (66, (.int .i64 (r : Nat))), (67, (.bool (decide (((r : Nat) : Int) < (10 : Int))))), (129, (.int .i64 (k5 : Nat)))] a' ∧ k5 ≤ 8 ∧ hh2 = closeTo v h k5 ∧ w.grownBy W (some g) ∧ Blk W g 80 (u32Vals hh2) ∧ Blk W g10 90 (u32Vals v)) (fun a' _ => 8 - (intOf (a'.eval (.tmp 129))).toNat) ⟨0, h, ((((((((((((((((F474.nil.cons (q_get F474 (t := 129) rfl (by first | rfl | (congr 1; omega) | (congr 1; done)))).cons (q_get F474 (t := 67) rfl rfl)).cons (q_get F474 (t := 66) rfl rfl)).cons (q_get F474 (t := 65) rfl rfl)).cons (q_get F474 (t := 12) rfl rfl)).cons (q_get F474 (t := 59) rfl rfl)).cons (q_get F474 (t := 21) rfl rfl)).cons (q_get F474 (t := 20) rfl rfl)).cons (q_get F474 (t := 19) rfl rfl)).cons (q_get F474 (t := 18) rfl rfl)).cons (q_get F474 (t := 9) rfl rfl)).cons (q_get F474 (t := 8) rfl rfl)).cons (q_get F474 (t := 3) rfl rfl)).cons (q_get F474 (t := 2) rfl rfl)).cons (q_get F474 (t := 1) rfl rfl)).cons (q_get F474 (t := 0) rfl rfl)), (by omega), rfl, (grow_ext (grow_refl w g) hx220), b223, b225⟩ ?_
        clear F474
        rintro a475 w476 ⟨k5, hh2, F477, hp479, hp480, hx478, b481, b482⟩
        have hL483 := F477
        have z484 := hx478.size
        have z485 := b481.lt
        have z486 := b482.lt
        have hhl : hh2.length = 8 := by rw [hp480]; exact closeTo_len hh
        refine wp_seq_k (fun K487 hK487 => ?_)
        refine wp_region_lit ?_
        refine qv 0 (.bool (decide (((k5 : Nat) : Int) < (8 : Int)))) F477 rfl (rn_lss (F477.get rfl) rfl) fun _ F489 => ?_; clear F477
        refine wpList_nil ?_
        refine hK487 _ _ ?_
        clear hK487
        refine wp_seq_k (fun K490 hK490 => ?_)
        by_cases hc491 : ((k5 : Nat) : Int) < (8 : Int)
        · skip
          refine wp_cond_true (c_true F489 rfl (decide_eq_true hc491)) ?_
          refine wp_skip ?_
          refine hK490 _ _ ?_
          clear hK490
          refine wp_seq_k (fun K492 hK492 => ?_)
          refine wp_block ?_
          refine wp_seq_k (fun K493 hK493 => ?_)
          refine wp_region_lit ?_
          refine qv 0 (.int .i64 (k5 : Nat)) F489 rfl (rn_move (F489.get rfl)) fun _ F495 => ?_; clear F489
          refine qv 1 (.int .i64 (k5 : Nat)) F495 rfl (rn_assign (F495.get rfl)) fun _ F497 => ?_; clear F495
          refine wpList_nil ?_
          refine hK493 _ _ ?_
          clear hK493
          have hx499 : ∃ W, w476.drew = W ∧ Ext w476 W := ⟨_, rfl, (Ext.refl _).drew⟩
          obtain ⟨w498, e500, hx499⟩ := hx499
          have z501 := hx499.size
          refine any_start (fun W => Ext w498 W ∧ Blk W g 80 (u32Vals hh2) ∧ Blk W g10 90 (u32Vals v)) (fun i => i == 16) 17 #[false, false, false, false, false, false, false, false, false, false, false, false, false, false, false, false, false] rfl rfl rfl ?_
          rw [e500]; clear e500
          refine qp 0 (.pointer (some ⟨g, 0, none⟩)) F497 rfl rfl (fun W => (rn_move (F497.get rfl))) fun _ F503 => ?_; clear F497
          refine qp 1 (.int .i64 (k5 : Nat)) F503 rfl rfl (fun W => (rn_move (F503.get rfl))) fun _ F505 => ?_; clear F503
          refine qp 2 (.pointer (some ⟨g, 0, none⟩)) F505 rfl rfl (fun W => (rn_nil (F505.get rfl))) fun _ F507 => ?_; clear F505
          refine qp 3 (.pointer (some ⟨g, 0 + k5, none⟩)) F507 rfl rfl (fun W => (rn_indexArr Tryd.underlying80 inf79 (F507.get rfl) (F507.get rfl) (by omega : (0 : Int) ≤ (k5 : Nat)) (by omega : ((k5 : Nat) : Int) < ((8 : Nat) : Int)))) fun _ F509 => ?_; clear F507
          have b511 := (b481.ext hx499)
          have b512 := (b482.ext hx499)
          have hS510 : Ext w498 w498 ∧ Blk w498 g 80 (u32Vals hh2) ∧ Blk w498 g10 90 (u32Vals v) := ⟨(Ext.refl w498), b511, b512⟩
          refine qs 4 (.int .u32 ((hh2.getD k5 0).toNat : Nat)) F509 rfl rfl hS510 (fun W hW => (rn_load (isAgg_no Tryd.underlying79 rfl) (F509.get rfl) (blk_word hW.2.1 (by omega) (by have := (show List.length hh2 = _ from hhl); omega)))) fun _ F514 => ?_; clear F509
          refine qp 5 (.int .i64 (k5 : Nat)) F514 rfl rfl (fun W => (rn_move (F514.get rfl))) fun _ F516 => ?_; clear F514
          refine qp 6 (.pointer (some ⟨g10, 0 + k5, none⟩)) F516 rfl rfl (fun W => (rn_indexArr Tryd.underlying90 inf79 (F516.get rfl) (F516.get rfl) (by omega : (0 : Int) ≤ (k5 : Nat)) (by omega : ((k5 : Nat) : Int) < ((16 : Nat) : Int)))) fun _ F518 => ?_; clear F516
          refine qs 7 (.int .u32 ((v.getD k5 0).toNat : Nat)) F518 rfl rfl hS510 (fun W hW => (rn_load (isAgg_no Tryd.underlying79 rfl) (F518.get rfl) (blk_word hW.2.2 (by omega) (by have := (show List.length v = _ from hvl); omega)))) fun _ F520 => ?_; clear F518
          refine qp 8 (.int .i64 (k5 : Nat)) F520 rfl rfl (fun W => (rn_move (F520.get rfl))) fun _ F522 => ?_; clear F520
          refine qp 9 (.int .i64 (8 + k5 : Nat)) F522 rfl rfl (fun W => (rn_addN (a := 8) (b := k5) rfl (F522.get rfl) (by omega))) fun _ F524 => ?_; clear F522
          refine qp 10 (.pointer (some ⟨g10, 0 + (8 + k5), none⟩)) F524 rfl rfl (fun W => (rn_indexArr Tryd.underlying90 inf79 (F524.get rfl) (F524.get rfl) (by omega : (0 : Int) ≤ (8 + k5 : Nat)) (by omega : ((8 + k5 : Nat) : Int) < ((16 : Nat) : Int)))) fun _ F526 => ?_; clear F524
          refine qs 11 (.int .u32 ((v.getD (8 + k5) 0).toNat : Nat)) F526 rfl rfl hS510 (fun W hW => (rn_load (isAgg_no Tryd.underlying79 rfl) (F526.get rfl) (blk_word hW.2.2 (by omega) (by have := (show List.length v = _ from hvl); omega)))) fun _ F528 => ?_; clear F526
          refine qp 12 (.int .u32 (((v.getD k5 0) ^^^ (v.getD (8 + k5) 0)).toNat : Nat)) F528 rfl rfl (fun W => (rn_xor32 (a := (v.getD k5 0)) (b := (v.getD (8 + k5) 0)) (F528.get rfl) (F528.get rfl))) fun _ F530 => ?_; clear F528
          refine qp 13 (.int .u32 (((hh2.getD k5 0) ^^^ ((v.getD k5 0) ^^^ (v.getD (8 + k5) 0))).toNat : Nat)) F530 rfl rfl (fun W => (rn_xor32 (a := (hh2.getD k5 0)) (b := ((v.getD k5 0) ^^^ (v.getD (8 + k5) 0))) (F530.get rfl) (F530.get rfl))) fun _ F532 => ?_; clear F530
          refine qp 14 (.pointer (some ⟨g, 0, none⟩)) F532 rfl rfl (fun W => (rn_nil (F532.get rfl))) fun _ F534 => ?_; clear F532
          refine qp 15 (.pointer (some ⟨g, 0 + k5, none⟩)) F534 rfl rfl (fun W => (rn_indexArr Tryd.underlying80 inf79 (F534.get rfl) (F534.get rfl) (by omega : (0 : Int) ≤ (k5 : Nat)) (by omega : ((k5 : Nat) : Int) < ((8 : Nat) : Int)))) fun _ F536 => ?_; clear F534
          refine any_one (i := 16) (by decide +kernel) rfl ?_
          refine o_store1 (new := (u32Vals (hh2.set k5 ((hh2.getD k5 0) ^^^ ((v.getD k5 0) ^^^ (v.getD (8 + k5) 0)))))) F536 rfl rfl rfl rfl (F536.get rfl) (F536.get rfl) b511 inf79 (by rw [u32Vals_len hhl]; omega) rfl (u32Vals_set (by omega)) ?_
          intro w537 b538 hg539; have z540 := hg539.size
          refine ⟨fun h => absurd h (by decide), ?_⟩
          refine any_nil (by decide +kernel) ?_
          refine hK492 _ _ ?_
          clear hK492
          have F541 := ((((((((((((((((((F536.nil.c F536 17 rfl).c F536 130 rfl).c F536 129 rfl).c F536 67 rfl).c F536 66 rfl).c F536 65 rfl).c F536 12 rfl).c F536 59 rfl).c F536 21 rfl).c F536 20 rfl).c F536 19 rfl).c F536 18 rfl).c F536 9 rfl).c F536 8 rfl).c F536 3 rfl).c F536 2 rfl).c F536 1 rfl).c F536 0 rfl)
          clear F536
          refine wp_region_lit ?_
          refine qv 0 (.int .i64 (k5 + 1 : Nat)) F541 rfl (rn_addN (a := k5) (b := 1) (F541.get rfl) rfl (by omega)) fun _ F543 => ?_; clear F541
          refine qv 1 (.int .i64 (k5 + 1 : Nat)) F543 rfl (rn_move (F543.get rfl)) fun _ F545 => ?_; clear F543
          refine wpList_nil ?_
          obtain ⟨v546, e547⟩ : ∃ z, z = hh2.set k5 ((hh2.getD k5 0) ^^^ ((v.getD k5 0) ^^^ (v.getD (8 + k5) 0))) := ⟨_, rfl⟩
          have hl548 : v546.length = 8 := (congrArg List.length e547).trans (show List.length (hh2.set k5 ((hh2.getD k5 0) ^^^ ((v.getD k5 0) ^^^ (v.getD (8 + k5) 0)))) = _ from List.length_set.trans hhl)
          rw [← e547] at b538
          have b549 := (b512.grownN hg539 (by omega))
          refine ⟨⟨k5 + 1, v546, ((((((((((((((((F545.nil.cons (q_get F545 (t := 129) rfl (by first | rfl | (congr 1; omega) | (congr 1; done)))).cons (q_get F545 (t := 67) rfl rfl)).cons (q_get F545 (t := 66) rfl rfl)).cons (q_get F545 (t := 65) rfl rfl)).cons (q_get F545 (t := 12) rfl rfl)).cons (q_get F545 (t := 59) rfl rfl)).cons (q_get F545 (t := 21) rfl rfl)).cons (q_get F545 (t := 20) rfl rfl)).cons (q_get F545 (t := 19) rfl rfl)).cons (q_get F545 (t := 18) rfl rfl)).cons (q_get F545 (t := 9) rfl rfl)).cons (q_get F545 (t := 8) rfl rfl)).cons (q_get F545 (t := 3) rfl rfl)).cons (q_get F545 (t := 2) rfl rfl)).cons (q_get F545 (t := 1) rfl rfl)).cons (q_get F545 (t := 0) rfl rfl)), (by omega), (closeTo_step hp480 e547), (grow_set (grow_ext (grow_set (grow_refl w g) hx478) hx499) hg539), b538, b549⟩, ?_⟩
          rw [F545.get (t := 129) rfl, hL483.get (t := 129) rfl]; simp [intOf]; omega
        · skip
          refine wp_cond_false (c_false F489 rfl (decide_eq_false hc491)) ?_
          refine wp_exit ?_
          refine exit_then ?_
          refine exit_then ?_
          refine exit_here ?_
          refine ret0 F489 rfl ?_
          have hk8 : k5 = 8 := by omega
          subst hk8
          exact ⟨rfl, (absorb_eq hv10 hp480) ▸ b481, (grow_set (grow_refl w g) hx478)⟩
    · skip
      refine wp_cond_false (c_false F186 rfl hc187) ?_
      refine wp_skip ?_
      refine hK183 _ _ ?_
      clear hK183
      refine wp_seq_k (fun K550 hK550 => ?_)
      refine wp_region_lit ?_
      refine qv 0 (.func (.func 69) #[(.pointer (some ⟨g10, 0, none⟩))] #[]) F186 rfl (rn_makeFunc (args1 (F186.get rfl)) (args0)) fun _ F552 => ?_; clear F186
      refine qv 1 (.func (.func 69) #[(.pointer (some ⟨g10, 0, none⟩))] #[]) F552 rfl (rn_assign (F552.get rfl)) fun _ F554 => ?_; clear F552
      refine wpList_nil ?_
      refine hK550 _ _ ?_
      clear hK550
      refine wp_seq_k (fun K555 hK555 => ?_)
      refine wp_seq_k (fun K556 hK556 => ?_)
      refine wp_region_lit ?_
      refine qv 0 (.agg (byteVals permB).toArray) F554 rfl (rn_loadN (cs := byteVals permB) rfl Tryd.underlying94 rfl (inf94.trans (congrArg some (byteVals_len permB_len).symm)) (fun j v hv => (hG.ext ((((((((Ext.refl w).trans hx31).trans hx109).grownN hg124 (by omega)).trans hx131).grownN hg141 (by omega)).grownN hg160 (by omega)).grownN hg180 (by omega))).at1 j v hv)) fun _ F558 => ?_; clear F554
      refine qv 1 (.int .i64 0) F558 rfl (rn_move rfl) fun _ F560 => ?_; clear F558
      refine wpList_nil ?_
      refine hK556 _ _ ?_
      clear hK556
      refine wp_block ?_
      have hmw : m = words b := words_eq hp33 (by omega)
      obtain ⟨v561, e562⟩ : ∃ z, z = ((h ++ iv).set 12 (((h ++ iv).getD 12 0) ^^^ n.toUInt32)).set 13 ((((h ++ iv).set 12 (((h ++ iv).getD 12 0) ^^^ n.toUInt32)).getD 13 0) ^^^ ((n >>> UInt64.ofNat 32).toUInt32)) := ⟨_, rfl⟩
      have hl563 : v561.length = 16 := (congrArg List.length e562).trans (show List.length (((h ++ iv).set 12 (((h ++ iv).getD 12 0) ^^^ n.toUInt32)).set 13 ((((h ++ iv).set 12 (((h ++ iv).getD 12 0) ^^^ n.toUInt32)).getD 13 0) ^^^ ((n >>> UInt64.ofNat 32).toUInt32))) = _ from List.length_set.trans (show List.length ((h ++ iv).set 12 (((h ++ iv).getD 12 0) ^^^ n.toUInt32)) = _ from List.length_set.trans (hiv_len hh)))
      rw [← e562] at b179
      have hv0 : v561 = begin_ h n last := by rw [e562, hc187]; exact begin_false
      have b564 := (((((b121.grownN hg124 (by omega)).ext hx131).grownN hg141 (by omega)).grownN hg160 (by omega)).grownN hg180 (by omega))
      have b565 := ((((((b35.ext hx109).grownN hg124 (by omega)).ext hx131).grownN hg141 (by omega)).grownN hg160 (by omega)).grownN hg180 (by omega))
      refine wp_loop (fun a' W => ∃ (r : Nat) (v : List UInt32), Sl 149 [(0, (.pointer (some ⟨g, 0, none⟩))), (1, (.slice A b.length c)), (2, (.int .u64 (n.toNat : Nat))), (3, (.bool last)), (8, (.pointer (some ⟨g2, 0, none⟩))), (9, (.pointer (some ⟨g10, 0, none⟩))), (18, (.slice A b.length c)), (19, (.int .i64 (b.length : Nat))), (20, (.int .i64 (k : Nat))), (21, (.bool (decide (((k : Nat) : Int) < ((b.length : Nat) : Int))))), (59, (.bool last)), (12, (.func (.func 69) #[(.pointer (some ⟨g10, 0, none⟩))] #[])), (65, (.agg (byteVals permB).toArray)), (66, (.int .i64 (r : Nat)))] a' ∧ r ≤ 10 ∧ v = roundTo m v561 r ∧ Ext w W ∧ Blk W g 80 (u32Vals h) ∧ Blk W g2 90 (u32Vals m) ∧ Blk W g10 90 (u32Vals v)) (fun a' _ => 10 - (intOf (a'.eval (.tmp 66))).toNat) ⟨0, v561, ((((((((((((((F560.nil.cons (q_get F560 (t := 66) rfl (by first | rfl | (congr 1; omega) | (congr 1; done)))).cons (q_get F560 (t := 65) rfl rfl)).cons (q_get F560 (t := 12) rfl rfl)).cons (q_get F560 (t := 59) rfl rfl)).cons (q_get F560 (t := 21) rfl rfl)).cons (q_get F560 (t := 20) rfl rfl)).cons (q_get F560 (t := 19) rfl rfl)).cons (q_get F560 (t := 18) rfl rfl)).cons (q_get F560 (t := 9) rfl rfl)).cons (q_get F560 (t := 8) rfl rfl)).cons (q_get F560 (t := 3) rfl rfl)).cons (q_get F560 (t := 2) rfl rfl)).cons (q_get F560 (t := 1) rfl rfl)).cons (q_get F560 (t := 0) rfl rfl)), (by omega), rfl, ((((((((Ext.refl w).trans hx31).trans hx109).grownN hg124 (by omega)).trans hx131).grownN hg141 (by omega)).grownN hg160 (by omega)).grownN hg180 (by omega)), b564, b565, b179⟩ ?_
      clear F560
      rintro a566 w567 ⟨r, v, F568, hp570, hp571, hx569, b572, b573, b574⟩
      have hL575 := F568
      have z576 := hx569.size
      have z577 := b572.lt
      have z578 := b573.lt
      have z579 := b574.lt
      have hvl : v.length = 16 := by rw [hp571]; exact roundTo_len hl563
      refine wp_seq_k (fun K580 hK580 => ?_)
      refine wp_region_lit ?_
      refine qv 0 (.bool (decide (((r : Nat) : Int) < (10 : Int)))) F568 rfl (rn_lss (F568.get rfl) rfl) fun _ F582 => ?_; clear F568
      refine wpList_nil ?_
      refine hK580 _ _ ?_
      clear hK580
      refine wp_seq_k (fun K583 hK583 => ?_)
      by_cases hc584 : ((r : Nat) : Int) < (10 : Int)
      · skip
        refine wp_cond_true (c_true F582 rfl (decide_eq_true hc584)) ?_
        refine wp_skip ?_
        refine hK583 _ _ ?_
        clear hK583
        refine wp_seq_k (fun K585 hK585 => ?_)
        refine wp_block ?_
        refine wp_seq_k (fun K586 hK586 => ?_)
        refine wp_region_lit ?_
        refine qv 0 (.agg (byteVals ((permB.drop (r * 16)).take 16)).toArray) F582 rfl ((rn_indexAA Tryd.underlying94 Tryd.underlying93 rfl inf93 (F582.get rfl) (F582.get rfl) (by omega : (0 : Int) ≤ (r : Nat)) (by omega : ((r : Nat) : Int) < ((10 : Nat) : Int))).trans (congrArg (fun v => Result.ok (Next.value (Value.agg v)) _) (bytes_part _ _ _))) fun _ F588 => ?_; clear F582
        refine wpl_op (i := 1) rfl (o_new (fun g => (.pointer (some ⟨g, 0, none⟩))) (byteVals (List.replicate 16 0)) 93 F588 rfl rfl rfl rfl (by kernel_rfl) ?_)
        intro g589 w590 a595 F596 z593 z594 b591 hx592; clear F588
        refine wpl_op (i := 2) rfl (o_store (cells := (byteVals ((permB.drop (r * 16)).take 16))) F596 rfl rfl rfl rfl (F596.get rfl) (F596.get rfl) b591 (inf93.trans (congrArg some (byteVals_len (len_part (i := r) (k := 16) permB_len (by omega))).symm)) ((byteVals_len (show List.length (List.replicate 16 0) = _ from List.length_replicate)).trans (byteVals_len (len_part (i := r) (k := 16) permB_len (by omega))).symm) (byteVals_one _) ?_)
        intro w597 b598 hg599; have z600 := hg599.size
        refine wpList_nil ?_
        refine hK586 _ _ ?_
        clear hK586
        refine wp_seq_k (fun K601 hK601 => ?_)
        refine wp_seq_k (fun K602 hK602 => ?_)
        refine wp_region_lit ?_
        refine qv 0 (.int .i64 0) F596 rfl (rn_move rfl) fun _ F604 => ?_; clear F596
        refine wpList_nil ?_
        refine hK602 _ _ ?_
        clear hK602
        refine wp_block ?_
        have b605 := ((b572.ext hx592).grownN hg599 (by omega))
        have b606 := ((b573.ext hx592).grownN hg599 (by omega))
        have b607 := ((b574.ext hx592).grownN hg599 (by omega))
        refine wp_loop (fun a' W => ∃ (k1 : Nat) (v1 : List UInt32), Sl 149 [(0, (.pointer (some ⟨g, 0, none⟩))), (1, (.slice A b.length c)), (2, (.int .u64 (n.toNat : Nat))), (3, (.bool last)), (8, (.pointer (some ⟨g2, 0, none⟩))), (9, (.pointer (some ⟨g10, 0, none⟩))), (18, (.slice A b.length c)), (19, (.int .i64 (b.length : Nat))), (20, (.int .i64 (k : Nat))), (21, (.bool (decide (((k : Nat) : Int) < ((b.length : Nat) : Int))))), (59, (.bool last)), (12, (.func (.func 69) #[(.pointer (some ⟨g10, 0, none⟩))] #[])), (65, (.agg (byteVals permB).toArray)), (66, (.int .i64 (r : Nat))), (67, (.bool (decide (((r : Nat) : Int) < (10 : Int))))), (14, (.pointer (some ⟨g589, 0, none⟩))), (69, (.int .i64 (k1 : Nat)))] a' ∧ k1 ≤ 4 ∧ v1 = mixTo m (permRow r) v (k1) ∧ Ext w W ∧ Blk W g 80 (u32Vals h) ∧ Blk W g2 90 (u32Vals m) ∧ Blk W g10 90 (u32Vals v1) ∧ Blk W g589 93 (byteVals ((permB.drop (r * 16)).take 16))) (fun a' _ => 4 - (intOf (a'.eval (.tmp 69))).toNat) ⟨0, v, (((((((((((((((((F604.nil.cons (q_get F604 (t := 69) rfl (by first | rfl | (congr 1; omega) | (congr 1; done)))).cons (q_get F604 (t := 14) rfl rfl)).cons (q_get F604 (t := 67) rfl rfl)).cons (q_get F604 (t := 66) rfl rfl)).cons (q_get F604 (t := 65) rfl rfl)).cons (q_get F604 (t := 12) rfl rfl)).cons (q_get F604 (t := 59) rfl rfl)).cons (q_get F604 (t := 21) rfl rfl)).cons (q_get F604 (t := 20) rfl rfl)).cons (q_get F604 (t := 19) rfl rfl)).cons (q_get F604 (t := 18) rfl rfl)).cons (q_get F604 (t := 9) rfl rfl)).cons (q_get F604 (t := 8) rfl rfl)).cons (q_get F604 (t := 3) rfl rfl)).cons (q_get F604 (t := 2) rfl rfl)).cons (q_get F604 (t := 1) rfl rfl)).cons (q_get F604 (t := 0) rfl rfl)), (by omega), rfl, ((((Ext.refl w).trans hx569).trans hx592).grownN hg599 (by omega)), b605, b606, b607, b598⟩ ?_
        clear F604
        rintro a608 w609 ⟨k1, v1, F610, hp612, hp613, hx611, b614, b615, b616, b617⟩
        have hL618 := F610
        have z619 := hx611.size
        have z620 := b614.lt
        have z621 := b615.lt
        have z622 := b616.lt
        have z623 := b617.lt
        have hlv1 : v1.length = 16 := by rw [hp613]; exact mixTo_len hvl
        refine wp_seq_k (fun K624 hK624 => ?_)
        refine wp_region_lit ?_
        refine qv 0 (.bool (decide (((k1 : Nat) : Int) < (4 : Int)))) F610 rfl (rn_lss (F610.get rfl) rfl) fun _ F626 => ?_; clear F610
        refine wpList_nil ?_
        refine hK624 _ _ ?_
        clear hK624
        refine wp_seq_k (fun K627 hK627 => ?_)
        by_cases hc628 : ((k1 : Nat) : Int) < (4 : Int)
        · skip
          refine wp_cond_true (c_true F626 rfl (decide_eq_true hc628)) ?_
          refine wp_skip ?_
          refine hK627 _ _ ?_
          clear hK627
          refine wp_seq_k (fun K629 hK629 => ?_)
          refine wp_block ?_
          refine wp_seq_k (fun K630 hK630 => ?_)
          refine wp_region_lit ?_
          refine qv 0 (.int .i64 (k1 : Nat)) F626 rfl (rn_move (F626.get rfl)) fun _ F632 => ?_; clear F626
          refine qv 1 (.int .i64 (k1 : Nat)) F632 rfl (rn_assign (F632.get rfl)) fun _ F634 => ?_; clear F632
          refine wpList_nil ?_
          refine hK630 _ _ ?_
          clear hK630
          have z635 := perm_lt (r := r) (by omega) (j := 2 * k1) (by omega)
          have z636 := perm_lt (r := r) (by omega) (j := (2 * k1) + 1) (by omega)
          have hx638 : ∃ W, w609.drew = W ∧ Ext w609 W := ⟨_, rfl, (Ext.refl _).drew⟩
          obtain ⟨w637, e639, hx638⟩ := hx638
          have z640 := hx638.size
          refine any_start (fun W => True ∧ Blk W g589 93 (byteVals ((permB.drop (r * 16)).take 16)) ∧ Blk W g2 90 (u32Vals m)) (fun i => false) 22 #[false, false, false, false, false, false, false, false, false, false, false, false, false, false, false, false, false, false, false, false, false, false] rfl rfl rfl ?_
          rw [e639]; clear e639
          refine qp 0 (.func (.func 69) #[(.pointer (some ⟨g10, 0, none⟩))] #[]) F634 rfl rfl (fun W => (rn_move (F634.get rfl))) fun _ F642 => ?_; clear F634
          refine qp 1 (.int .i64 (k1 : Nat)) F642 rfl rfl (fun W => (rn_move (F642.get rfl))) fun _ F644 => ?_; clear F642
          refine qp 2 (.int .i64 (k1 : Nat)) F644 rfl rfl (fun W => (rn_move (F644.get rfl))) fun _ F646 => ?_; clear F644
          refine qp 3 (.int .i64 (4 + k1 : Nat)) F646 rfl rfl (fun W => (rn_addN (a := 4) (b := k1) rfl (F646.get rfl) (by omega))) fun _ F648 => ?_; clear F646
          refine qp 4 (.int .i64 (k1 : Nat)) F648 rfl rfl (fun W => (rn_move (F648.get rfl))) fun _ F650 => ?_; clear F648
          refine qp 5 (.int .i64 (8 + k1 : Nat)) F650 rfl rfl (fun W => (rn_addN (a := 8) (b := k1) rfl (F650.get rfl) (by omega))) fun _ F652 => ?_; clear F650
          refine qp 6 (.int .i64 (k1 : Nat)) F652 rfl rfl (fun W => (rn_move (F652.get rfl))) fun _ F654 => ?_; clear F652
          refine qp 7 (.int .i64 (12 + k1 : Nat)) F654 rfl rfl (fun W => (rn_addN (a := 12) (b := k1) rfl (F654.get rfl) (by omega))) fun _ F656 => ?_; clear F654
          refine qp 8 (.int .i64 (k1 : Nat)) F656 rfl rfl (fun W => (rn_move (F656.get rfl))) fun _ F658 => ?_; clear F656
          refine qp 9 (.int .i64 (2 * k1 : Nat)) F658 rfl rfl (fun W => (rn_mulN (a := 2) (b := k1) rfl (F658.get rfl) (by omega))) fun _ F660 => ?_; clear F658
          refine qp 10 (.pointer (some ⟨g589, 0 + (2 * k1), none⟩)) F660 rfl rfl (fun W => (rn_indexArr Tryd.underlying93 inf5 (F660.get rfl) (F660.get rfl) (by omega : (0 : Int) ≤ (2 * k1 : Nat)) (by omega : ((2 * k1 : Nat) : Int) < ((16 : Nat) : Int)))) fun _ F662 => ?_; clear F660
          have b664 := (b617.ext hx638)
          have b665 := (b615.ext hx638)
          have hS663 : True ∧ Blk w637 g589 93 (byteVals ((permB.drop (r * 16)).take 16)) ∧ Blk w637 g2 90 (u32Vals m) := ⟨trivial, b664, b665⟩
          refine qs 11 (.int .u8 ((((permB.drop (r * 16)).take 16).getD (2 * k1) 0).toNat : Nat)) F662 rfl rfl hS663 (fun W hW => (rn_load (isAgg_no Tryd.underlying5 rfl) (F662.get rfl) (blk_byte hW.2.1 (by omega) (by have := (show List.length ((permB.drop (r * 16)).take 16) = _ from (len_part (i := r) (k := 16) permB_len (by omega))); omega)))) fun _ F667 => ?_; clear F662
          refine qp 12 (.pointer (some ⟨g2, 0 + ((((permB.drop (r * 16)).take 16).getD (2 * k1) 0).toNat), none⟩)) F667 rfl rfl (fun W => (rn_indexArr Tryd.underlying90 inf79 (F667.get rfl) (F667.get rfl) (by omega : (0 : Int) ≤ ((((permB.drop (r * 16)).take 16).getD (2 * k1) 0).toNat : Nat)) (by omega : (((((permB.drop (r * 16)).take 16).getD (2 * k1) 0).toNat : Nat) : Int) < ((16 : Nat) : Int)))) fun _ F669 => ?_; clear F667
          refine qs 13 (.int .u32 ((m.getD ((((permB.drop (r * 16)).take 16).getD (2 * k1) 0).toNat) 0).toNat : Nat)) F669 rfl rfl hS663 (fun W hW => (rn_load (isAgg_no Tryd.underlying79 rfl) (F669.get rfl) (blk_word hW.2.2 (by omega) (by have := (show List.length m = _ from hm); omega)))) fun _ F671 => ?_; clear F669
          refine qp 14 (.int .i64 (k1 : Nat)) F671 rfl rfl (fun W => (rn_move (F671.get rfl))) fun _ F673 => ?_; clear F671
          refine qp 15 (.int .i64 (2 * k1 : Nat)) F673 rfl rfl (fun W => (rn_mulN (a := 2) (b := k1) rfl (F673.get rfl) (by omega))) fun _ F675 => ?_; clear F673
          refine qp 16 (.int .i64 ((2 * k1) + 1 : Nat)) F675 rfl rfl (fun W => (rn_addN (a := 2 * k1) (b := 1) (F675.get rfl) rfl (by omega))) fun _ F677 => ?_; clear F675
          refine qp 17 (.pointer (some ⟨g589, 0 + ((2 * k1) + 1), none⟩)) F677 rfl rfl (fun W => (rn_indexArr Tryd.underlying93 inf5 (F677.get rfl) (F677.get rfl) (by omega : (0 : Int) ≤ ((2 * k1) + 1 : Nat)) (by omega : (((2 * k1) + 1 : Nat) : Int) < ((16 : Nat) : Int)))) fun _ F679 => ?_; clear F677
          refine qs 18 (.int .u8 ((((permB.drop (r * 16)).take 16).getD ((2 * k1) + 1) 0).toNat : Nat)) F679 rfl rfl hS663 (fun W hW => (rn_load (isAgg_no Tryd.underlying5 rfl) (F679.get rfl) (blk_byte hW.2.1 (by omega) (by have := (show List.length ((permB.drop (r * 16)).take 16) = _ from (len_part (i := r) (k := 16) permB_len (by omega))); omega)))) fun _ F681 => ?_; clear F679
          refine qp 19 (.pointer (some ⟨g2, 0 + ((((permB.drop (r * 16)).take 16).getD ((2 * k1) + 1) 0).toNat), none⟩)) F681 rfl rfl (fun W => (rn_indexArr Tryd.underlying90 inf79 (F681.get rfl) (F681.get rfl) (by omega : (0 : Int) ≤ ((((permB.drop (r * 16)).take 16).getD ((2 * k1) + 1) 0).toNat : Nat)) (by omega : (((((permB.drop (r * 16)).take 16).getD ((2 * k1) + 1) 0).toNat : Nat) : Int) < ((16 : Nat) : Int)))) fun _ F683 => ?_; clear F681
          refine qs 20 (.int .u32 ((m.getD ((((permB.drop (r * 16)).take 16).getD ((2 * k1) + 1) 0).toNat) 0).toNat : Nat)) F683 rfl rfl hS663 (fun W hW => (rn_load (isAgg_no Tryd.underlying79 rfl) (F683.get rfl) (blk_word hW.2.2 (by omega) (by have := (show List.length m = _ from hm); omega)))) fun _ F685 => ?_; clear F683
          refine any_one (i := 21) (by decide +kernel) rfl ?_
          have b686 := (b616.ext hx638)
          refine o_call F685 rfl rfl rfl rfl (rn_callv (F685.get rfl) (args1_6 (F685.get rfl) (F685.get rfl) (F685.get rfl) (F685.get rfl) (F685.get rfl) (F685.get rfl)) (by kernel_rfl)) (mix_any g10 v1 k1 (4 + k1) (8 + k1) (12 + k1) (m.getD ((((permB.drop (r * 16)).take 16).getD (2 * k1) 0).toNat) 0) (m.getD ((((permB.drop (r * 16)).take 16).getD ((2 * k1) + 1) 0).toNat) 0) _ b686 hlv1 (by omega) (by omega) (by omega) (by omega)) ?_
          rintro _ w687 ⟨rfl, b688, hg689⟩
          refine ⟨_, rfl, ?_⟩; intro a690 F691; clear F685; have z692 := hg689.size
          have b693 := (b664.grownN hg689 (by omega))
          have b694 := (b665.grownN hg689 (by omega))
          refine ⟨fun _ _ => ⟨trivial, b693, b694⟩, ?_⟩
          refine any_nil (by decide +kernel) ?_
          refine hK629 _ _ ?_
          clear hK629
          have F695 := (((((((((((((((((((F691.nil.c F691 15 rfl).c F691 70 rfl).c F691 69 rfl).c F691 14 rfl).c F691 67 rfl).c F691 66 rfl).c F691 65 rfl).c F691 12 rfl).c F691 59 rfl).c F691 21 rfl).c F691 20 rfl).c F691 19 rfl).c F691 18 rfl).c F691 9 rfl).c F691 8 rfl).c F691 3 rfl).c F691 2 rfl).c F691 1 rfl).c F691 0 rfl)
          clear F691
          refine wp_region_lit ?_
          refine qv 0 (.int .i64 (k1 + 1 : Nat)) F695 rfl (rn_addN (a := k1) (b := 1) (F695.get rfl) rfl (by omega)) fun _ F697 => ?_; clear F695
          refine qv 1 (.int .i64 (k1 + 1 : Nat)) F697 rfl (rn_move (F697.get rfl)) fun _ F699 => ?_; clear F697
          refine wpList_nil ?_
          obtain ⟨v700, e701⟩ : ∃ z, z = mixSeq v1 k1 (4 + k1) (8 + k1) (12 + k1) (m.getD ((((permB.drop (r * 16)).take 16).getD (2 * k1) 0).toNat) 0) (m.getD ((((permB.drop (r * 16)).take 16).getD ((2 * k1) + 1) 0).toNat) 0) := ⟨_, rfl⟩
          have hl702 : v700.length = 16 := (congrArg List.length e701).trans ((mixSeq_len _ _ _ _ _ _ _).trans hlv1)
          rw [← e701] at b688
          have b703 := ((b614.ext hx638).grownN hg689 (by omega))
          refine ⟨⟨k1 + 1, v700, (((((((((((((((((F699.nil.cons (q_get F699 (t := 69) rfl (by first | rfl | (congr 1; omega) | (congr 1; done)))).cons (q_get F699 (t := 14) rfl rfl)).cons (q_get F699 (t := 67) rfl rfl)).cons (q_get F699 (t := 66) rfl rfl)).cons (q_get F699 (t := 65) rfl rfl)).cons (q_get F699 (t := 12) rfl rfl)).cons (q_get F699 (t := 59) rfl rfl)).cons (q_get F699 (t := 21) rfl rfl)).cons (q_get F699 (t := 20) rfl rfl)).cons (q_get F699 (t := 19) rfl rfl)).cons (q_get F699 (t := 18) rfl rfl)).cons (q_get F699 (t := 9) rfl rfl)).cons (q_get F699 (t := 8) rfl rfl)).cons (q_get F699 (t := 3) rfl rfl)).cons (q_get F699 (t := 2) rfl rfl)).cons (q_get F699 (t := 1) rfl rfl)).cons (q_get F699 (t := 0) rfl rfl)), (by omega), (mixTo_step1 (by omega) (by omega) hvl hp613 e701), ((((Ext.refl w).trans hx611).trans hx638).grownN hg689 (by omega)), b703, b694, b688, b693⟩, ?_⟩
          rw [F699.get (t := 69) rfl, hL618.get (t := 69) rfl]; simp [intOf]; omega
        · skip
          refine wp_cond_false (c_false F626 rfl (decide_eq_false hc628)) ?_
          refine wp_exit ?_
          refine exit_then ?_
          refine exit_then ?_
          refine exit_here ?_
          refine hK601 _ _ ?_
          clear hK601
          refine wp_seq_k (fun K704 hK704 => ?_)
          refine wp_region_lit ?_
          refine qv 0 (.int .i64 0) F626 rfl (rn_move rfl) fun _ F706 => ?_; clear F626
          refine wpList_nil ?_
          refine hK704 _ _ ?_
          clear hK704
          refine wp_block ?_
          have hi4 : v1 = mixTo m (permRow r) v (4 + 0) := by rw [hp613, show k1 = 4 + 0 from by omega]
          refine wp_loop (fun a' W => ∃ (k2 : Nat) (v2 : List UInt32), Sl 149 [(0, (.pointer (some ⟨g, 0, none⟩))), (1, (.slice A b.length c)), (2, (.int .u64 (n.toNat : Nat))), (3, (.bool last)), (8, (.pointer (some ⟨g2, 0, none⟩))), (9, (.pointer (some ⟨g10, 0, none⟩))), (18, (.slice A b.length c)), (19, (.int .i64 (b.length : Nat))), (20, (.int .i64 (k : Nat))), (21, (.bool (decide (((k : Nat) : Int) < ((b.length : Nat) : Int))))), (59, (.bool last)), (12, (.func (.func 69) #[(.pointer (some ⟨g10, 0, none⟩))] #[])), (65, (.agg (byteVals permB).toArray)), (66, (.int .i64 (r : Nat))), (67, (.bool (decide (((r : Nat) : Int) < (10 : Int))))), (14, (.pointer (some ⟨g589, 0, none⟩))), (69, (.int .i64 (k1 : Nat))), (70, (.bool (decide (((k1 : Nat) : Int) < (4 : Int))))), (95, (.int .i64 (k2 : Nat)))] a' ∧ k2 ≤ 4 ∧ v2 = mixTo m (permRow r) v (4 + k2) ∧ Ext w W ∧ Blk W g 80 (u32Vals h) ∧ Blk W g2 90 (u32Vals m) ∧ Blk W g10 90 (u32Vals v2) ∧ Blk W g589 93 (byteVals ((permB.drop (r * 16)).take 16))) (fun a' _ => 4 - (intOf (a'.eval (.tmp 95))).toNat) ⟨0, v1, (((((((((((((((((((F706.nil.cons (q_get F706 (t := 95) rfl (by first | rfl | (congr 1; omega) | (congr 1; done)))).cons (q_get F706 (t := 70) rfl rfl)).cons (q_get F706 (t := 69) rfl rfl)).cons (q_get F706 (t := 14) rfl rfl)).cons (q_get F706 (t := 67) rfl rfl)).cons (q_get F706 (t := 66) rfl rfl)).cons (q_get F706 (t := 65) rfl rfl)).cons (q_get F706 (t := 12) rfl rfl)).cons (q_get F706 (t := 59) rfl rfl)).cons (q_get F706 (t := 21) rfl rfl)).cons (q_get F706 (t := 20) rfl rfl)).cons (q_get F706 (t := 19) rfl rfl)).cons (q_get F706 (t := 18) rfl rfl)).cons (q_get F706 (t := 9) rfl rfl)).cons (q_get F706 (t := 8) rfl rfl)).cons (q_get F706 (t := 3) rfl rfl)).cons (q_get F706 (t := 2) rfl rfl)).cons (q_get F706 (t := 1) rfl rfl)).cons (q_get F706 (t := 0) rfl rfl)), (by omega), hi4, ((Ext.refl w).trans hx611), b614, b615, b616, b617⟩ ?_
          clear F706
          rintro a707 w708 ⟨k2, v2, F709, hp711, hp712, hx710, b713, b714, b715, b716⟩
          have hL717 := F709
          have z718 := hx710.size
          have z719 := b713.lt
          have z720 := b714.lt
          have z721 := b715.lt
          have z722 := b716.lt
          have hlv2 : v2.length = 16 := by rw [hp712]; exact mixTo_len hvl
          refine wp_seq_k (fun K723 hK723 => ?_)
          refine wp_region_lit ?_
          refine qv 0 (.bool (decide (((k2 : Nat) : Int) < (4 : Int)))) F709 rfl (rn_lss (F709.get rfl) rfl) fun _ F725 => ?_; clear F709
          refine wpList_nil ?_
          refine hK723 _ _ ?_
          clear hK723
          refine wp_seq_k (fun K726 hK726 => ?_)
          by_cases hc727 : ((k2 : Nat) : Int) < (4 : Int)
          · skip
            refine wp_cond_true (c_true F725 rfl (decide_eq_true hc727)) ?_
            refine wp_skip ?_
            refine hK726 _ _ ?_
            clear hK726
            refine wp_seq_k (fun K728 hK728 => ?_)
            refine wp_block ?_
            refine wp_seq_k (fun K729 hK729 => ?_)
            refine wp_region_lit ?_
            refine qv 0 (.int .i64 (k2 : Nat)) F725 rfl (rn_move (F725.get rfl)) fun _ F731 => ?_; clear F725
            refine qv 1 (.int .i64 (k2 : Nat)) F731 rfl (rn_assign (F731.get rfl)) fun _ F733 => ?_; clear F731
            refine wpList_nil ?_
            refine hK729 _ _ ?_
            clear hK729
            have z734 := perm_lt (r := r) (by omega) (j := 8 + (2 * k2)) (by omega)
            have z735 := perm_lt (r := r) (by omega) (j := 9 + (2 * k2)) (by omega)
            have hx737 : ∃ W, w708.drew = W ∧ Ext w708 W := ⟨_, rfl, (Ext.refl _).drew⟩
            obtain ⟨w736, e738, hx737⟩ := hx737
            have z739 := hx737.size
            refine any_start (fun W => True ∧ Blk W g589 93 (byteVals ((permB.drop (r * 16)).take 16)) ∧ Blk W g2 90 (u32Vals m)) (fun i => false) 29 #[false, false, false, false, false, false, false, false, false, false, false, false, false, false, false, false, false, false, false, false, false, false, false, false, false, false, false, false, false] rfl rfl rfl ?_
            rw [e738]; clear e738
            refine qp 0 (.func (.func 69) #[(.pointer (some ⟨g10, 0, none⟩))] #[]) F733 rfl rfl (fun W => (rn_move (F733.get rfl))) fun _ F741 => ?_; clear F733
            refine qp 1 (.int .i64 (k2 : Nat)) F741 rfl rfl (fun W => (rn_move (F741.get rfl))) fun _ F743 => ?_; clear F741
            refine qp 2 (.int .i64 (k2 : Nat)) F743 rfl rfl (fun W => (rn_move (F743.get rfl))) fun _ F745 => ?_; clear F743
            refine qp 3 (.int .i64 (k2 + 1 : Nat)) F745 rfl rfl (fun W => (rn_addN (a := k2) (b := 1) (F745.get rfl) rfl (by omega))) fun _ F747 => ?_; clear F745
            refine qp 4 (.int .i64 ((k2 + 1) % 4 : Nat)) F747 rfl rfl (fun W => (rn_remN (a := k2 + 1) (b := 4) (F747.get rfl) rfl (by omega))) fun _ F749 => ?_; clear F747
            refine qp 5 (.int .i64 (4 + ((k2 + 1) % 4) : Nat)) F749 rfl rfl (fun W => (rn_addN (a := 4) (b := (k2 + 1) % 4) rfl (F749.get rfl) (by omega))) fun _ F751 => ?_; clear F749
            refine qp 6 (.int .i64 (k2 : Nat)) F751 rfl rfl (fun W => (rn_move (F751.get rfl))) fun _ F753 => ?_; clear F751
            refine qp 7 (.int .i64 (k2 + 2 : Nat)) F753 rfl rfl (fun W => (rn_addN (a := k2) (b := 2) (F753.get rfl) rfl (by omega))) fun _ F755 => ?_; clear F753
            refine qp 8 (.int .i64 ((k2 + 2) % 4 : Nat)) F755 rfl rfl (fun W => (rn_remN (a := k2 + 2) (b := 4) (F755.get rfl) rfl (by omega))) fun _ F757 => ?_; clear F755
            refine qp 9 (.int .i64 (8 + ((k2 + 2) % 4) : Nat)) F757 rfl rfl (fun W => (rn_addN (a := 8) (b := (k2 + 2) % 4) rfl (F757.get rfl) (by omega))) fun _ F759 => ?_; clear F757
            refine qp 10 (.int .i64 (k2 : Nat)) F759 rfl rfl (fun W => (rn_move (F759.get rfl))) fun _ F761 => ?_; clear F759
            refine qp 11 (.int .i64 (k2 + 3 : Nat)) F761 rfl rfl (fun W => (rn_addN (a := k2) (b := 3) (F761.get rfl) rfl (by omega))) fun _ F763 => ?_; clear F761
            refine qp 12 (.int .i64 ((k2 + 3) % 4 : Nat)) F763 rfl rfl (fun W => (rn_remN (a := k2 + 3) (b := 4) (F763.get rfl) rfl (by omega))) fun _ F765 => ?_; clear F763
            refine qp 13 (.int .i64 (12 + ((k2 + 3) % 4) : Nat)) F765 rfl rfl (fun W => (rn_addN (a := 12) (b := (k2 + 3) % 4) rfl (F765.get rfl) (by omega))) fun _ F767 => ?_; clear F765
            refine qp 14 (.int .i64 (k2 : Nat)) F767 rfl rfl (fun W => (rn_move (F767.get rfl))) fun _ F769 => ?_; clear F767
            refine qp 15 (.int .i64 (2 * k2 : Nat)) F769 rfl rfl (fun W => (rn_mulN (a := 2) (b := k2) rfl (F769.get rfl) (by omega))) fun _ F771 => ?_; clear F769
            refine qp 16 (.int .i64 (8 + (2 * k2) : Nat)) F771 rfl rfl (fun W => (rn_addN (a := 8) (b := 2 * k2) rfl (F771.get rfl) (by omega))) fun _ F773 => ?_; clear F771
            refine qp 17 (.pointer (some ⟨g589, 0 + (8 + (2 * k2)), none⟩)) F773 rfl rfl (fun W => (rn_indexArr Tryd.underlying93 inf5 (F773.get rfl) (F773.get rfl) (by omega : (0 : Int) ≤ (8 + (2 * k2) : Nat)) (by omega : ((8 + (2 * k2) : Nat) : Int) < ((16 : Nat) : Int)))) fun _ F775 => ?_; clear F773
            have b777 := (b716.ext hx737)
            have b778 := (b714.ext hx737)
            have hS776 : True ∧ Blk w736 g589 93 (byteVals ((permB.drop (r * 16)).take 16)) ∧ Blk w736 g2 90 (u32Vals m) := ⟨trivial, b777, b778⟩
            refine qs 18 (.int .u8 ((((permB.drop (r * 16)).take 16).getD (8 + (2 * k2)) 0).toNat : Nat)) F775 rfl rfl hS776 (fun W hW => (rn_load (isAgg_no Tryd.underlying5 rfl) (F775.get rfl) (blk_byte hW.2.1 (by omega) (by have := (show List.length ((permB.drop (r * 16)).take 16) = _ from (len_part (i := r) (k := 16) permB_len (by omega))); omega)))) fun _ F780 => ?_; clear F775
            refine qp 19 (.pointer (some ⟨g2, 0 + ((((permB.drop (r * 16)).take 16).getD (8 + (2 * k2)) 0).toNat), none⟩)) F780 rfl rfl (fun W => (rn_indexArr Tryd.underlying90 inf79 (F780.get rfl) (F780.get rfl) (by omega : (0 : Int) ≤ ((((permB.drop (r * 16)).take 16).getD (8 + (2 * k2)) 0).toNat : Nat)) (by omega : (((((permB.drop (r * 16)).take 16).getD (8 + (2 * k2)) 0).toNat : Nat) : Int) < ((16 : Nat) : Int)))) fun _ F782 => ?_; clear F780
            refine qs 20 (.int .u32 ((m.getD ((((permB.drop (r * 16)).take 16).getD (8 + (2 * k2)) 0).toNat) 0).toNat : Nat)) F782 rfl rfl hS776 (fun W hW => (rn_load (isAgg_no Tryd.underlying79 rfl) (F782.get rfl) (blk_word hW.2.2 (by omega) (by have := (show List.length m = _ from hm); omega)))) fun _ F784 => ?_; clear F782
            refine qp 21 (.int .i64 (k2 : Nat)) F784 rfl rfl (fun W => (rn_move (F784.get rfl))) fun _ F786 => ?_; clear F784
            refine qp 22 (.int .i64 (2 * k2 : Nat)) F786 rfl rfl (fun W => (rn_mulN (a := 2) (b := k2) rfl (F786.get rfl) (by omega))) fun _ F788 => ?_; clear F786
            refine qp 23 (.int .i64 (9 + (2 * k2) : Nat)) F788 rfl rfl (fun W => (rn_addN (a := 9) (b := 2 * k2) rfl (F788.get rfl) (by omega))) fun _ F790 => ?_; clear F788
            refine qp 24 (.pointer (some ⟨g589, 0 + (9 + (2 * k2)), none⟩)) F790 rfl rfl (fun W => (rn_indexArr Tryd.underlying93 inf5 (F790.get rfl) (F790.get rfl) (by omega : (0 : Int) ≤ (9 + (2 * k2) : Nat)) (by omega : ((9 + (2 * k2) : Nat) : Int) < ((16 : Nat) : Int)))) fun _ F792 => ?_; clear F790
            refine qs 25 (.int .u8 ((((permB.drop (r * 16)).take 16).getD (9 + (2 * k2)) 0).toNat : Nat)) F792 rfl rfl hS776 (fun W hW => (rn_load (isAgg_no Tryd.underlying5 rfl) (F792.get rfl) (blk_byte hW.2.1 (by omega) (by have := (show List.length ((permB.drop (r * 16)).take 16) = _ from (len_part (i := r) (k := 16) permB_len (by omega))); omega)))) fun _ F794 => ?_; clear F792
            refine qp 26 (.pointer (some ⟨g2, 0 + ((((permB.drop (r * 16)).take 16).getD (9 + (2 * k2)) 0).toNat), none⟩)) F794 rfl rfl (fun W => (rn_indexArr Tryd.underlying90 inf79 (F794.get rfl) (F794.get rfl) (by omega : (0 : Int) ≤ ((((permB.drop (r * 16)).take 16).getD (9 + (2 * k2)) 0).toNat : Nat)) (by omega : (((((permB.drop (r * 16)).take 16).getD (9 + (2 * k2)) 0).toNat : Nat) : Int) < ((16 : Nat) : Int)))) fun _ F796 => ?_; clear F794
            refine qs 27 (.int .u32 ((m.getD ((((permB.drop (r * 16)).take 16).getD (9 + (2 * k2)) 0).toNat) 0).toNat : Nat)) F796 rfl rfl hS776 (fun W hW => (rn_load (isAgg_no Tryd.underlying79 rfl) (F796.get rfl) (blk_word hW.2.2 (by omega) (by have := (show List.length m = _ from hm); omega)))) fun _ F798 => ?_; clear F796
            refine any_one (i := 28) (by decide +kernel) rfl ?_
            have b799 := (b715.ext hx737)
            refine o_call F798 rfl rfl rfl rfl (rn_callv (F798.get rfl) (args1_6 (F798.get rfl) (F798.get rfl) (F798.get rfl) (F798.get rfl) (F798.get rfl) (F798.get rfl)) (by kernel_rfl)) (mix_any g10 v2 k2 (4 + ((k2 + 1) % 4)) (8 + ((k2 + 2) % 4)) (12 + ((k2 + 3) % 4)) (m.getD ((((permB.drop (r * 16)).take 16).getD (8 + (2 * k2)) 0).toNat) 0) (m.getD ((((permB.drop (r * 16)).take 16).getD (9 + (2 * k2)) 0).toNat) 0) _ b799 hlv2 (by omega) (by omega) (by omega) (by omega)) ?_
            rintro _ w800 ⟨rfl, b801, hg802⟩
            refine ⟨_, rfl, ?_⟩; intro a803 F804; clear F798; have z805 := hg802.size
            have b806 := (b777.grownN hg802 (by omega))
            have b807 := (b778.grownN hg802 (by omega))
            refine ⟨fun _ _ => ⟨trivial, b806, b807⟩, ?_⟩
            refine any_nil (by decide +kernel) ?_
            refine hK728 _ _ ?_
            clear hK728
            have F808 := (((((((((((((((((((((F804.nil.c F804 16 rfl).c F804 96 rfl).c F804 95 rfl).c F804 70 rfl).c F804 69 rfl).c F804 14 rfl).c F804 67 rfl).c F804 66 rfl).c F804 65 rfl).c F804 12 rfl).c F804 59 rfl).c F804 21 rfl).c F804 20 rfl).c F804 19 rfl).c F804 18 rfl).c F804 9 rfl).c F804 8 rfl).c F804 3 rfl).c F804 2 rfl).c F804 1 rfl).c F804 0 rfl)
            clear F804
            refine wp_region_lit ?_
            refine qv 0 (.int .i64 (k2 + 1 : Nat)) F808 rfl (rn_addN (a := k2) (b := 1) (F808.get rfl) rfl (by omega)) fun _ F810 => ?_; clear F808
            refine qv 1 (.int .i64 (k2 + 1 : Nat)) F810 rfl (rn_move (F810.get rfl)) fun _ F812 => ?_; clear F810
            refine wpList_nil ?_
            obtain ⟨v813, e814⟩ : ∃ z, z = mixSeq v2 k2 (4 + ((k2 + 1) % 4)) (8 + ((k2 + 2) % 4)) (12 + ((k2 + 3) % 4)) (m.getD ((((permB.drop (r * 16)).take 16).getD (8 + (2 * k2)) 0).toNat) 0) (m.getD ((((permB.drop (r * 16)).take 16).getD (9 + (2 * k2)) 0).toNat) 0) := ⟨_, rfl⟩
            have hl815 : v813.length = 16 := (congrArg List.length e814).trans ((mixSeq_len _ _ _ _ _ _ _).trans hlv2)
            rw [← e814] at b801
            have b816 := ((b713.ext hx737).grownN hg802 (by omega))
            refine ⟨⟨k2 + 1, v813, (((((((((((((((((((F812.nil.cons (q_get F812 (t := 95) rfl (by first | rfl | (congr 1; omega) | (congr 1; done)))).cons (q_get F812 (t := 70) rfl rfl)).cons (q_get F812 (t := 69) rfl rfl)).cons (q_get F812 (t := 14) rfl rfl)).cons (q_get F812 (t := 67) rfl rfl)).cons (q_get F812 (t := 66) rfl rfl)).cons (q_get F812 (t := 65) rfl rfl)).cons (q_get F812 (t := 12) rfl rfl)).cons (q_get F812 (t := 59) rfl rfl)).cons (q_get F812 (t := 21) rfl rfl)).cons (q_get F812 (t := 20) rfl rfl)).cons (q_get F812 (t := 19) rfl rfl)).cons (q_get F812 (t := 18) rfl rfl)).cons (q_get F812 (t := 9) rfl rfl)).cons (q_get F812 (t := 8) rfl rfl)).cons (q_get F812 (t := 3) rfl rfl)).cons (q_get F812 (t := 2) rfl rfl)).cons (q_get F812 (t := 1) rfl rfl)).cons (q_get F812 (t := 0) rfl rfl)), (by omega), (mixTo_step2 (by omega) (by omega) hvl hp712 e814), ((((Ext.refl w).trans hx710).trans hx737).grownN hg802 (by omega)), b816, b807, b801, b806⟩, ?_⟩
            rw [F812.get (t := 95) rfl, hL717.get (t := 95) rfl]; simp [intOf]; omega
          · skip
            have hv8 : v2 = mixTo m (permRow r) v 8 := by rw [hp712, show 4 + k2 = 8 from by omega]
            refine wp_cond_false (c_false F725 rfl (decide_eq_false hc727)) ?_
            refine wp_exit ?_
            refine exit_then ?_
            refine exit_then ?_
            refine exit_here ?_
            refine hK585 _ _ ?_
            clear hK585
            refine wp_region_lit ?_
            refine qv 0 (.int .i64 (r + 1 : Nat)) F725 rfl (rn_addN (a := r) (b := 1) (F725.get rfl) rfl (by omega)) fun _ F818 => ?_; clear F725
            refine qv 1 (.int .i64 (r + 1 : Nat)) F818 rfl (rn_move (F818.get rfl)) fun _ F820 => ?_; clear F818
            refine wpList_nil ?_
            refine ⟨⟨r + 1, v2, ((((((((((((((F820.nil.cons (q_get F820 (t := 66) rfl (by first | rfl | (congr 1; omega) | (congr 1; done)))).cons (q_get F820 (t := 65) rfl rfl)).cons (q_get F820 (t := 12) rfl rfl)).cons (q_get F820 (t := 59) rfl rfl)).cons (q_get F820 (t := 21) rfl rfl)).cons (q_get F820 (t := 20) rfl rfl)).cons (q_get F820 (t := 19) rfl rfl)).cons (q_get F820 (t := 18) rfl rfl)).cons (q_get F820 (t := 9) rfl rfl)).cons (q_get F820 (t := 8) rfl rfl)).cons (q_get F820 (t := 3) rfl rfl)).cons (q_get F820 (t := 2) rfl rfl)).cons (q_get F820 (t := 1) rfl rfl)).cons (q_get F820 (t := 0) rfl rfl)), (by omega), (roundTo_step (by omega) hp571 hv8), ((Ext.refl w).trans hx710), b713, b714, b715⟩, ?_⟩
            rw [F820.get (t := 66) rfl, hL575.get (t := 66) rfl]; simp [intOf]; omega
      · skip
        refine wp_cond_false (c_false F582 rfl (decide_eq_false hc584)) ?_
        refine wp_exit ?_
        refine exit_then ?_
        refine exit_then ?_
        refine exit_here ?_
        refine hK555 _ _ ?_
        clear hK555
        refine wp_seq_k (fun K821 hK821 => ?_)
        refine wp_region_lit ?_
        refine qv 0 (.int .i64 0) F582 rfl (rn_move rfl) fun _ F823 => ?_; clear F582
        refine wpList_nil ?_
        refine hK821 _ _ ?_
        clear hK821
        refine wp_block ?_
        have hv10 : v = roundTo (words b) (begin_ h n last) 10 := by rw [hp571, hv0, hmw, show r = 10 from by omega]
        refine wp_loop (fun a' W => ∃ (k5 : Nat) (hh2 : List UInt32), Sl 149 [(0, (.pointer (some ⟨g, 0, none⟩))), (1, (.slice A b.length c)), (2, (.int .u64 (n.toNat : Nat))), (3, (.bool last)), (8, (.pointer (some ⟨g2, 0, none⟩))), (9, (.pointer (some ⟨g10, 0, none⟩))), (18, (.slice A b.length c)), (19, (.int .i64 (b.length : Nat))), (20, (.int .i64 (k : Nat))), (21, (.bool (decide (((k : Nat) : Int) < ((b.length : Nat) : Int))))), (59, (.bool last)), (12, (.func (.func 69) #[(.pointer (some ⟨g10, 0, none⟩))] #[])), (65, (.agg (byteVals permB).toArray)), (66, (.int .i64 (r : Nat))), (67, (.bool (decide (((r : Nat) : Int) < (10 : Int))))), (129, (.int .i64 (k5 : Nat)))] a' ∧ k5 ≤ 8 ∧ hh2 = closeTo v h k5 ∧ w.grownBy W (some g) ∧ Blk W g 80 (u32Vals hh2) ∧ Blk W g10 90 (u32Vals v)) (fun a' _ => 8 - (intOf (a'.eval (.tmp 129))).toNat) ⟨0, h, ((((((((((((((((F823.nil.cons (q_get F823 (t := 129) rfl (by first | rfl | (congr 1; omega) | (congr 1; done)))).cons (q_get F823 (t := 67) rfl rfl)).cons (q_get F823 (t := 66) rfl rfl)).cons (q_get F823 (t := 65) rfl rfl)).cons (q_get F823 (t := 12) rfl rfl)).cons (q_get F823 (t := 59) rfl rfl)).cons (q_get F823 (t := 21) rfl rfl)).cons (q_get F823 (t := 20) rfl rfl)).cons (q_get F823 (t := 19) rfl rfl)).cons (q_get F823 (t := 18) rfl rfl)).cons (q_get F823 (t := 9) rfl rfl)).cons (q_get F823 (t := 8) rfl rfl)).cons (q_get F823 (t := 3) rfl rfl)).cons (q_get F823 (t := 2) rfl rfl)).cons (q_get F823 (t := 1) rfl rfl)).cons (q_get F823 (t := 0) rfl rfl)), (by omega), rfl, (grow_ext (grow_refl w g) hx569), b572, b574⟩ ?_
        clear F823
        rintro a824 w825 ⟨k5, hh2, F826, hp828, hp829, hx827, b830, b831⟩
        have hL832 := F826
        have z833 := hx827.size
        have z834 := b830.lt
        have z835 := b831.lt
        have hhl : hh2.length = 8 := by rw [hp829]; exact closeTo_len hh
        refine wp_seq_k (fun K836 hK836 => ?_)
        refine wp_region_lit ?_
        refine qv 0 (.bool (decide (((k5 : Nat) : Int) < (8 : Int)))) F826 rfl (rn_lss (F826.get rfl) rfl) fun _ F838 => ?_; clear F826
        refine wpList_nil ?_
        refine hK836 _ _ ?_
        clear hK836
        refine wp_seq_k (fun K839 hK839 => ?_)
        by_cases hc840 : ((k5 : Nat) : Int) < (8 : Int)
        · skip
          refine wp_cond_true (c_true F838 rfl (decide_eq_true hc840)) ?_
          refine wp_skip ?_
          refine hK839 _ _ ?_
          clear hK839
          refine wp_seq_k (fun K841 hK841 => ?_)
          refine wp_block ?_
          refine wp_seq_k (fun K842 hK842 => ?_)
          refine wp_region_lit ?_
          refine qv 0 (.int .i64 (k5 : Nat)) F838 rfl (rn_move (F838.get rfl)) fun _ F844 => ?_; clear F838
          refine qv 1 (.int .i64 (k5 : Nat)) F844 rfl (rn_assign (F844.get rfl)) fun _ F846 => ?_; clear F844
          refine wpList_nil ?_
          refine hK842 _ _ ?_
          clear hK842
          have hx848 : ∃ W, w825.drew = W ∧ Ext w825 W := ⟨_, rfl, (Ext.refl _).drew⟩
          obtain ⟨w847, e849, hx848⟩ := hx848
          have z850 := hx848.size
          refine any_start (fun W => Ext w847 W ∧ Blk W g 80 (u32Vals hh2) ∧ Blk W g10 90 (u32Vals v)) (fun i => i == 16) 17 #[false, false, false, false, false, false, false, false, false, false, false, false, false, false, false, false, false] rfl rfl rfl ?_
          rw [e849]; clear e849
          refine qp 0 (.pointer (some ⟨g, 0, none⟩)) F846 rfl rfl (fun W => (rn_move (F846.get rfl))) fun _ F852 => ?_; clear F846
          refine qp 1 (.int .i64 (k5 : Nat)) F852 rfl rfl (fun W => (rn_move (F852.get rfl))) fun _ F854 => ?_; clear F852
          refine qp 2 (.pointer (some ⟨g, 0, none⟩)) F854 rfl rfl (fun W => (rn_nil (F854.get rfl))) fun _ F856 => ?_; clear F854
          refine qp 3 (.pointer (some ⟨g, 0 + k5, none⟩)) F856 rfl rfl (fun W => (rn_indexArr Tryd.underlying80 inf79 (F856.get rfl) (F856.get rfl) (by omega : (0 : Int) ≤ (k5 : Nat)) (by omega : ((k5 : Nat) : Int) < ((8 : Nat) : Int)))) fun _ F858 => ?_; clear F856
          have b860 := (b830.ext hx848)
          have b861 := (b831.ext hx848)
          have hS859 : Ext w847 w847 ∧ Blk w847 g 80 (u32Vals hh2) ∧ Blk w847 g10 90 (u32Vals v) := ⟨(Ext.refl w847), b860, b861⟩
          refine qs 4 (.int .u32 ((hh2.getD k5 0).toNat : Nat)) F858 rfl rfl hS859 (fun W hW => (rn_load (isAgg_no Tryd.underlying79 rfl) (F858.get rfl) (blk_word hW.2.1 (by omega) (by have := (show List.length hh2 = _ from hhl); omega)))) fun _ F863 => ?_; clear F858
          refine qp 5 (.int .i64 (k5 : Nat)) F863 rfl rfl (fun W => (rn_move (F863.get rfl))) fun _ F865 => ?_; clear F863
          refine qp 6 (.pointer (some ⟨g10, 0 + k5, none⟩)) F865 rfl rfl (fun W => (rn_indexArr Tryd.underlying90 inf79 (F865.get rfl) (F865.get rfl) (by omega : (0 : Int) ≤ (k5 : Nat)) (by omega : ((k5 : Nat) : Int) < ((16 : Nat) : Int)))) fun _ F867 => ?_; clear F865
          refine qs 7 (.int .u32 ((v.getD k5 0).toNat : Nat)) F867 rfl rfl hS859 (fun W hW => (rn_load (isAgg_no Tryd.underlying79 rfl) (F867.get rfl) (blk_word hW.2.2 (by omega) (by have := (show List.length v = _ from hvl); omega)))) fun _ F869 => ?_; clear F867
          refine qp 8 (.int .i64 (k5 : Nat)) F869 rfl rfl (fun W => (rn_move (F869.get rfl))) fun _ F871 => ?_; clear F869
          refine qp 9 (.int .i64 (8 + k5 : Nat)) F871 rfl rfl (fun W => (rn_addN (a := 8) (b := k5) rfl (F871.get rfl) (by omega))) fun _ F873 => ?_; clear F871
          refine qp 10 (.pointer (some ⟨g10, 0 + (8 + k5), none⟩)) F873 rfl rfl (fun W => (rn_indexArr Tryd.underlying90 inf79 (F873.get rfl) (F873.get rfl) (by omega : (0 : Int) ≤ (8 + k5 : Nat)) (by omega : ((8 + k5 : Nat) : Int) < ((16 : Nat) : Int)))) fun _ F875 => ?_; clear F873
          refine qs 11 (.int .u32 ((v.getD (8 + k5) 0).toNat : Nat)) F875 rfl rfl hS859 (fun W hW => (rn_load (isAgg_no Tryd.underlying79 rfl) (F875.get rfl) (blk_word hW.2.2 (by omega) (by have := (show List.length v = _ from hvl); omega)))) fun _ F877 => ?_; clear F875
          refine qp 12 (.int .u32 (((v.getD k5 0) ^^^ (v.getD (8 + k5) 0)).toNat : Nat)) F877 rfl rfl (fun W => (rn_xor32 (a := (v.getD k5 0)) (b := (v.getD (8 + k5) 0)) (F877.get rfl) (F877.get rfl))) fun _ F879 => ?_; clear F877
          refine qp 13 (.int .u32 (((hh2.getD k5 0) ^^^ ((v.getD k5 0) ^^^ (v.getD (8 + k5) 0))).toNat : Nat)) F879 rfl rfl (fun W => (rn_xor32 (a := (hh2.getD k5 0)) (b := ((v.getD k5 0) ^^^ (v.getD (8 + k5) 0))) (F879.get rfl) (F879.get rfl))) fun _ F881 => ?_; clear F879
          refine qp 14 (.pointer (some ⟨g, 0, none⟩)) F881 rfl rfl (fun W => (rn_nil (F881.get rfl))) fun _ F883 => ?_; clear F881
          refine qp 15 (.pointer (some ⟨g, 0 + k5, none⟩)) F883 rfl rfl (fun W => (rn_indexArr Tryd.underlying80 inf79 (F883.get rfl) (F883.get rfl) (by omega : (0 : Int) ≤ (k5 : Nat)) (by omega : ((k5 : Nat) : Int) < ((8 : Nat) : Int)))) fun _ F885 => ?_; clear F883
          refine any_one (i := 16) (by decide +kernel) rfl ?_
          refine o_store1 (new := (u32Vals (hh2.set k5 ((hh2.getD k5 0) ^^^ ((v.getD k5 0) ^^^ (v.getD (8 + k5) 0)))))) F885 rfl rfl rfl rfl (F885.get rfl) (F885.get rfl) b860 inf79 (by rw [u32Vals_len hhl]; omega) rfl (u32Vals_set (by omega)) ?_
          intro w886 b887 hg888; have z889 := hg888.size
          refine ⟨fun h => absurd h (by decide), ?_⟩
          refine any_nil (by decide +kernel) ?_
          refine hK841 _ _ ?_
          clear hK841
          have F890 := ((((((((((((((((((F885.nil.c F885 17 rfl).c F885 130 rfl).c F885 129 rfl).c F885 67 rfl).c F885 66 rfl).c F885 65 rfl).c F885 12 rfl).c F885 59 rfl).c F885 21 rfl).c F885 20 rfl).c F885 19 rfl).c F885 18 rfl).c F885 9 rfl).c F885 8 rfl).c F885 3 rfl).c F885 2 rfl).c F885 1 rfl).c F885 0 rfl)
          clear F885
          refine wp_region_lit ?_
          refine qv 0 (.int .i64 (k5 + 1 : Nat)) F890 rfl (rn_addN (a := k5) (b := 1) (F890.get rfl) rfl (by omega)) fun _ F892 => ?_; clear F890
          refine qv 1 (.int .i64 (k5 + 1 : Nat)) F892 rfl (rn_move (F892.get rfl)) fun _ F894 => ?_; clear F892
          refine wpList_nil ?_
          obtain ⟨v895, e896⟩ : ∃ z, z = hh2.set k5 ((hh2.getD k5 0) ^^^ ((v.getD k5 0) ^^^ (v.getD (8 + k5) 0))) := ⟨_, rfl⟩
          have hl897 : v895.length = 8 := (congrArg List.length e896).trans (show List.length (hh2.set k5 ((hh2.getD k5 0) ^^^ ((v.getD k5 0) ^^^ (v.getD (8 + k5) 0)))) = _ from List.length_set.trans hhl)
          rw [← e896] at b887
          have b898 := (b861.grownN hg888 (by omega))
          refine ⟨⟨k5 + 1, v895, ((((((((((((((((F894.nil.cons (q_get F894 (t := 129) rfl (by first | rfl | (congr 1; omega) | (congr 1; done)))).cons (q_get F894 (t := 67) rfl rfl)).cons (q_get F894 (t := 66) rfl rfl)).cons (q_get F894 (t := 65) rfl rfl)).cons (q_get F894 (t := 12) rfl rfl)).cons (q_get F894 (t := 59) rfl rfl)).cons (q_get F894 (t := 21) rfl rfl)).cons (q_get F894 (t := 20) rfl rfl)).cons (q_get F894 (t := 19) rfl rfl)).cons (q_get F894 (t := 18) rfl rfl)).cons (q_get F894 (t := 9) rfl rfl)).cons (q_get F894 (t := 8) rfl rfl)).cons (q_get F894 (t := 3) rfl rfl)).cons (q_get F894 (t := 2) rfl rfl)).cons (q_get F894 (t := 1) rfl rfl)).cons (q_get F894 (t := 0) rfl rfl)), (by omega), (closeTo_step hp829 e896), (grow_set (grow_ext (grow_set (grow_refl w g) hx827) hx848) hg888), b887, b898⟩, ?_⟩
          rw [F894.get (t := 129) rfl, hL832.get (t := 129) rfl]; simp [intOf]; omega
        · skip
          refine wp_cond_false (c_false F838 rfl (decide_eq_false hc840)) ?_
          refine wp_exit ?_
          refine exit_then ?_
          refine exit_then ?_
          refine exit_here ?_
          refine ret0 F838 rfl ?_
          have hk8 : k5 = 8 := by omega
          subst hk8
          exact ⟨rfl, (absorb_eq hv10 hp829) ▸ b830, (grow_set (grow_refl w g) hx827)⟩

end Go.Proofs.YtmjgjopbeokajaaDoor

namespace Go.Proofs.YtmjgjopbeokajaaDoor
open Go.RowKit

variable {S S' : Nat → Prop}

theorem El22 : El Tryd.prog 22 5 (.int .u8 0) 1 1 := ⟨Tryd.underlying22, by kernel_rfl, rfl, by decide⟩
theorem El28 : El Tryd.prog 28 37 (.agg #[(.int .u8 0), (.int .u8 0), (.int .u8 0), (.int .u8 0), (.int .u8 0), (.int .u8 0), (.int .u8 0), (.int .u8 0), (.int .u8 0), (.int .u8 0), (.int .u8 0), (.int .u8 0), (.int .u8 0), (.int .u8 0), (.int .u8 0), (.int .u8 0), (.int .u8 0), (.int .u8 0), (.int .u8 0), (.int .u8 0), (.int .u8 0), (.int .u8 0), (.int .u8 0), (.int .u8 0), (.int .u8 0), (.int .u8 0), (.int .u8 0), (.int .u8 0), (.int .u8 0), (.int .u8 0), (.int .u8 0), (.int .u8 0)]) 32 32 := ⟨Tryd.underlying28, by kernel_rfl, rfl, by decide⟩
theorem El44 : El Tryd.prog 44 4 (.bool false) 1 1 := ⟨Tryd.underlying44, by kernel_rfl, rfl, by decide⟩
end Go.Proofs.YtmjgjopbeokajaaDoor

namespace Go.Proofs.YtmjgjopbeokajaaDoor
open Go.RowKit

variable {S S' : Nat → Prop}

theorem absorb_at (g : Nat) (h : List UInt32) (b : List UInt8) (n : UInt64) (last : Bool) {A : Option Addr} {c m : Nat} (w : World) (hb : Blk w g 80 (u32Vals h)) (hh : h.length = 8) (hf : Fl S w 1 (.slice A m c) m (byteVals b)) (h64 : m ≤ 64) (hG : Glob w) :
    Calls Tryd.prog 64 #[.pointer (some ⟨g, 0, none⟩), .slice A m c, .int .u64 (n.toNat : Nat), .bool last] w (fun e w' => e = .returned (.tuple #[]) ∧ Blk w' g 80 (u32Vals (absorb h b n last)) ∧ w.grownBy w' (some g)) := by
  have hm : m = b.length := by have := hf.len; simp [byteVals] at this; omega
  subst hm
  exact absorb_any g h A c b n last w hb hh hf h64 hG
theorem feed_step {h : List UInt32} {n : Nat} {b : List UInt8} {h0 : List UInt32} {b0 : List UInt8} (hm : ¬ b.length ≤ 64) (e : feed h n b = feed h0 0 b0) : feed (absorb h (b.take 64) (UInt64.ofNat n + 64) false) (n + 64) (b.drop 64) = feed h0 0 b0 := by
  rw [← e, show feed h n b = feed (absorb h (b.take 64) (UInt64.ofNat (n + 64)) false) (n + 64) (b.drop 64) from by rw [feed, if_neg hm], UInt64.ofNat_add]; rfl
theorem feed_last {h : List UInt32} {n m : Nat} {b : List UInt8} {b0 : List UInt8} (hl : b.length = m) (hm : b.length ≤ 64) (e : feed h n b = feed first 0 b0) : out (absorb h b (UInt64.ofNat n + UInt64.ofNat m) true) = bsum b0 := by
  subst hl
  rw [bsum, ← e, feed, if_pos hm, UInt64.ofNat_add]
def outTo (h : List UInt32) (k : Nat) : List UInt8 := (List.range k).map (outByte h) ++ List.replicate (32 - k) 0
theorem outTo_len {h : List UInt32} {k : Nat} (hk : k ≤ 32) : (outTo h k).length = 32 := by simp [outTo]; omega
theorem outTo_all (h : List UInt32) : outTo h 32 = out h := by simp [outTo, out]
theorem outTo_step {h : List UInt32} {k : Nat} {d d' : List UInt8} (hk : k < 32) (hd : d = outTo h k) (he : d' = d.set k (h.getD (k / 4) 0 >>> UInt32.ofNat (8 * (k % 4))).toUInt8) : d' = outTo h (k + 1) := by
  rw [he, hd, outTo, outTo, List.set_append_right _ _ (by simp), List.range_succ, List.map_append, List.append_assoc]
  congr 1
  simp only [List.length_map, List.length_range, Nat.sub_self]
  rw [show 32 - k = (32 - (k + 1)) + 1 by omega, List.replicate_succ]
  rfl
theorem bsum_len (b : List UInt8) : (bsum b).length = 32 := by simp [bsum, out]
def sliceLen : Value → Nat | .slice _ n _ => n | _ => 0

set_option maxRecDepth 100000 in
set_option maxHeartbeats 1000000 in
theorem sum_any (A : Option Addr) (c : Nat) (b : List UInt8) (w : World) (hf : Fl S w 1 (.slice A b.length c) b.length (byteVals b)) (hG : Glob w) :
    Calls Tryd.prog 51 #[.slice A b.length c] w (fun e w' => e = .returned (.agg (byteVals (bsum b)).toArray) ∧ Ext w w') := by
  have hc : Fl (Clip S w) w 1 (.slice A b.length c) b.length (byteVals b) := hf.clip
  have hcc := (Fl.cel hc).2.1
  refine calls_enter (l := [(.slice A b.length c)]) Tryd.func51 rfl rfl rfl (fun aA hF => ?_)
  refine wp_seq_k (fun K1 hK1 => ?_)
  refine wp_region_lit ?_
  refine wpl_op (i := 0) rfl (o_new (fun g => (.pointer (some ⟨g, 0, none⟩))) (byteVals (List.replicate 32 0)) 37 hF rfl rfl rfl rfl (by kernel_rfl) ?_)
  intro g2 w3 a8 F9 z6 z7 b4 hx5; clear hF
  refine wpList_nil ?_
  refine hK1 _ _ ?_
  clear hK1
  refine wp_seq_k (fun K10 hK10 => ?_)
  refine wp_region_lit ?_
  refine qv 0 (.agg (u32Vals iv).toArray) F9 rfl (rn_loadN (cs := u32Vals iv) rfl Tryd.underlying80 rfl (inf80.trans (congrArg some (u32Vals_len iv_len).symm)) (fun j v hv => (hG.ext ((Ext.refl w).trans hx5)).at0 j v hv)) fun _ F12 => ?_; clear F9
  refine wpl_op (i := 1) rfl (o_new (fun g => (.pointer (some ⟨g, 0, none⟩))) (u32Vals (List.replicate 8 0)) 80 F12 rfl rfl rfl rfl (by kernel_rfl) ?_)
  intro g13 w14 a19 F20 z17 z18 b15 hx16; clear F12
  refine wpl_op (i := 2) rfl (o_store (cells := (u32Vals iv)) F20 rfl rfl rfl rfl (F20.get rfl) (F20.get rfl) b15 (inf80.trans (congrArg some (u32Vals_len iv_len).symm)) ((u32Vals_len (show List.length (List.replicate 8 0) = _ from List.length_replicate)).trans (u32Vals_len iv_len).symm) (u32Vals_one _) ?_)
  intro w21 b22 hg23; have z24 := hg23.size
  refine wpList_nil ?_
  refine hK10 _ _ ?_
  clear hK10
  refine wp_seq_k (fun K25 hK25 => ?_)
  refine wp_region_lit ?_
  refine qv 0 (.pointer (some ⟨g13, 0 + 0, none⟩)) F20 rfl (rn_indexArr Tryd.underlying80 inf79 (F20.get rfl) rfl (by omega : (0 : Int) ≤ 0) (by omega : (0 : Int) < ((8 : Nat) : Int))) fun _ F27 => ?_; clear F20
  refine qv 1 (.int .u32 ((iv.getD 0 0).toNat : Nat)) F27 rfl (rn_load (isAgg_no Tryd.underlying79 rfl) (F27.get rfl) (blk_word b22 (by omega) (by have := (show List.length iv = _ from iv_len); omega))) fun _ F29 => ?_; clear F27
  refine qv 2 (.int .u32 (((iv.getD 0 0) ^^^ (16842784 : UInt32)).toNat : Nat)) F29 rfl (rn_xor32 (a := (iv.getD 0 0)) (b := (16842784 : UInt32)) (F29.get rfl) rfl) fun _ F31 => ?_; clear F29
  refine qv 3 (.pointer (some ⟨g13, 0 + 0, none⟩)) F31 rfl (rn_indexArr Tryd.underlying80 inf79 (F31.get rfl) rfl (by omega : (0 : Int) ≤ 0) (by omega : (0 : Int) < ((8 : Nat) : Int))) fun _ F33 => ?_; clear F31
  refine wpl_op (i := 4) rfl (o_store1 (new := (u32Vals (iv.set 0 ((iv.getD 0 0) ^^^ (16842784 : UInt32))))) F33 rfl rfl rfl rfl (F33.get rfl) (F33.get rfl) b22 inf79 (by rw [u32Vals_len iv_len]; omega) rfl (u32Vals_set (by omega)) ?_)
  intro w34 b35 hg36; have z37 := hg36.size
  refine wpList_nil ?_
  refine hK25 _ _ ?_
  clear hK25
  have F38 := (((F33.nil.c F33 3 rfl).c F33 2 rfl).c F33 0 rfl)
  clear F33
  refine wp_seq_k (fun K39 hK39 => ?_)
  refine wp_region_lit ?_
  refine qv 0 (.int .u64 0) F38 rfl (rn_assign rfl) fun _ F41 => ?_; clear F38
  refine wpList_nil ?_
  refine hK39 _ _ ?_
  clear hK39
  refine wp_seq_k (fun K42 hK42 => ?_)
  refine wp_block ?_
  have d43 := (hc.pres (((((Pres.refl w).ext hx5).ext hx16).grownN hg23 (fun h => by simp only [Clip] at h; omega)).grownN hg36 (fun h => by simp only [Clip] at h; omega)))
  have b44 := (((b4.ext hx16).grownN hg23 (by omega)).grownN hg36 (by omega))
  refine wp_loop (fun a' W => ∃ (A1 : Option Addr) (c1 : Nat) (m1 : Nat) (b1 : List UInt8) (n1 : Nat) (hh : List UInt32), Sl 45 [(0, (.slice A1 m1 c1)), (2, (.pointer (some ⟨g2, 0, none⟩))), (3, (.pointer (some ⟨g13, 0, none⟩))), (4, (.int .u64 ((UInt64.ofNat n1).toNat : Nat)))] a' ∧ hh.length = 8 ∧ b1.length = m1 ∧ feed hh n1 b1 = feed first 0 b ∧ Ext w W ∧ Blk W g2 37 (byteVals (List.replicate 32 0)) ∧ Blk W g13 80 (u32Vals hh) ∧ Fl (Clip S w) W 1 (.slice A1 m1 c1) m1 (byteVals b1) ∧ w34.heap.size ≤ W.heap.size) (fun a' _ => (sliceLen (a'.eval (.tmp 0)))) ⟨A, c, b.length, b, 0, iv.set 0 ((iv.getD 0 0) ^^^ (16842784 : UInt32)), ((((F41.nil.cons (q_get F41 (t := 4) rfl (by first | rfl | (congr 1; omega) | (simp only [UInt64.ofNat_add]; rfl)))).cons (q_get F41 (t := 3) rfl rfl)).cons (q_get F41 (t := 2) rfl rfl)).cons (q_get F41 (t := 0) rfl (by first | rfl | (congr 1; omega) | (simp only [UInt64.ofNat_add]; rfl)))), rfl, rfl, rfl, (((((Ext.refl w).trans hx5).trans hx16).grownN hg23 (by omega)).grownN hg36 (by omega)), b44, b35, d43, (Nat.le_refl _)⟩ ?_
  clear F41
  rintro a45 w46 ⟨A1, c1, m1, b1, n1, hh, F47, hp49, hp50, hp51, hx48, b52, b53, hf54, hf55⟩
  have hL56 := F47
  have z57 := hx48.size
  have z58 := b52.lt
  have z59 := b53.lt
  have hhl : hh.length = 8 := hp49
  have hcc1 := (Fl.cel hf54).2.1
  refine wp_seq_k (fun K60 hK60 => ?_)
  refine wp_seq_k (fun K61 hK61 => ?_)
  refine wp_region_lit ?_
  refine qv 0 (.slice A1 m1 c1) F47 rfl (rn_move (F47.get rfl)) fun _ F63 => ?_; clear F47
  refine qv 1 (.int .i64 (m1 : Nat)) F63 rfl (rn_len_slice Tryd.underlying22 (F63.get rfl)) fun _ F65 => ?_; clear F63
  refine qv 2 (.bool (decide ((64 : Int) < ((m1 : Nat) : Int)))) F65 rfl (rn_gtr (F65.get rfl) rfl) fun _ F67 => ?_; clear F65
  refine wpList_nil ?_
  refine hK61 _ _ ?_
  clear hK61
  by_cases hc68 : (64 : Int) < ((m1 : Nat) : Int)
  · skip
    refine wp_cond_true (c_true F67 rfl (decide_eq_true hc68)) ?_
    refine wp_skip ?_
    refine hK60 _ _ ?_
    clear hK60
    refine wp_block ?_
    refine wp_seq_k (fun K69 hK69 => ?_)
    refine wp_region_lit ?_
    refine qv 0 (.int .u64 ((UInt64.ofNat n1).toNat : Nat)) F67 rfl (rn_move (F67.get rfl)) fun _ F71 => ?_; clear F67
    refine qv 1 (.int .u64 (((UInt64.ofNat n1) + (64 : UInt64)).toNat : Nat)) F71 rfl (rn_add64 (a := (UInt64.ofNat n1)) (b := (64 : UInt64)) (F71.get rfl) rfl) fun _ F73 => ?_; clear F71
    refine qv 2 (.int .u64 (((UInt64.ofNat n1) + (64 : UInt64)).toNat : Nat)) F73 rfl (rn_assign (F73.get rfl)) fun _ F75 => ?_; clear F73
    refine wpList_nil ?_
    refine hK69 _ _ ?_
    clear hK69
    have F76 := (((((F75.nil.c F75 13 rfl).c F75 4 rfl).c F75 3 rfl).c F75 2 rfl).c F75 0 rfl)
    clear F75
    refine wp_seq_k (fun K77 hK77 => ?_)
    refine wp_region_lit ?_
    refine qv 0 (.slice A1 m1 c1) F76 rfl (rn_move (F76.get rfl)) fun _ F79 => ?_; clear F76
    refine qv 1 (.slice A1 64 c1) F79 rfl (rn_sliceHi Tryd.underlying22 inf5 (F79.get rfl) rfl (by omega : (0 : Int) ≤ 64) (by omega : (64 : Int) ≤ ((c1 : Nat) : Int))) fun _ F81 => ?_; clear F79
    refine qv 2 (.int .u64 (((UInt64.ofNat n1) + (64 : UInt64)).toNat : Nat)) F81 rfl (rn_move (F81.get rfl)) fun _ F83 => ?_; clear F81
    refine wpl_op (i := 3) rfl (o_call F83 rfl rfl rfl rfl (rn_call (args4 (F83.get rfl) (F83.get rfl) (F83.get rfl) rfl) rfl (by kernel_rfl)) (absorb_at g13 hh (b1.take 64) ((UInt64.ofNat n1) + (64 : UInt64)) false _ b53 hhl (Fl.take_eq (j := 64) hf54 (by omega) (byteVals_take1 _ _)) (by omega) (hG.ext ((Ext.refl w).trans hx48))) ?_)
    rintro _ w84 ⟨rfl, b85, hg86⟩
    refine ⟨_, rfl, ?_⟩; intro a87 F88; clear F83; have z89 := hg86.size
    refine wpList_nil ?_
    refine hK77 _ _ ?_
    clear hK77
    have F90 := (((((F88.nil.c F88 13 rfl).c F88 4 rfl).c F88 3 rfl).c F88 2 rfl).c F88 0 rfl)
    clear F88
    refine wp_region_lit ?_
    refine qv 0 (.slice A1 m1 c1) F90 rfl (rn_move (F90.get rfl)) fun _ F92 => ?_; clear F90
    have d96 := (hf54.pres ((Pres.refl w46).grownN hg86 (fun h => by simp only [Clip] at h; omega)))
    obtain ⟨b93, o94, hA95, -⟩ := Fl.at d96 (by omega)
    refine qv 1 (.slice (some ⟨b93, o94 + 64 * 1, none⟩) (m1 - 64) (c1 - 64)) F92 rfl (rn_sliceLo (l := 64) Tryd.underlying22 inf5 ((F92.get rfl).trans (by rw [hA95])) rfl (by omega : 64 ≤ m1) (by omega : 64 < c1)) fun _ F98 => ?_; clear F92
    refine qv 2 (.slice (some ⟨b93, o94 + 64 * 1, none⟩) (m1 - 64) (c1 - 64)) F98 rfl (rn_assign (F98.get rfl)) fun _ F100 => ?_; clear F98
    refine wpList_nil ?_
    have b101 := (b52.grownN hg86 (by omega))
    refine ⟨⟨(some ⟨b93, o94 + 64 * 1, none⟩), c1 - 64, m1 - 64, b1.drop 64, (n1 + 64), absorb hh (b1.take 64) ((UInt64.ofNat n1) + (64 : UInt64)) false, ((((F100.nil.cons (q_get F100 (t := 4) rfl (by first | rfl | (congr 1; omega) | (simp only [UInt64.ofNat_add]; rfl)))).cons (q_get F100 (t := 3) rfl rfl)).cons (q_get F100 (t := 2) rfl rfl)).cons (q_get F100 (t := 0) rfl (by first | rfl | (congr 1; omega) | (simp only [UInt64.ofNat_add]; rfl)))), (absorb_len hhl), (by rw [List.length_drop]; omega), (feed_step (by omega) hp51), (((Ext.refl w).trans hx48).grownN hg86 (by omega)), b101, b85, (Fl.drop_eq (j := 64) d96 hA95 (by omega) (byteVals_drop1 _ _)), (by omega)⟩, ?_⟩
    rw [F100.get (t := 0) rfl, hL56.get (t := 0) rfl]; simp only [sliceLen]; omega
  · skip
    refine wp_cond_false (c_false F67 rfl (decide_eq_false hc68)) ?_
    refine wp_exit ?_
    refine exit_then ?_
    refine exit_then ?_
    refine exit_here ?_
    refine hK42 _ _ ?_
    clear hK42
    refine wp_seq_k (fun K102 hK102 => ?_)
    refine wp_region_lit ?_
    refine qv 0 (.slice A1 m1 c1) F67 rfl (rn_move (F67.get rfl)) fun _ F104 => ?_; clear F67
    refine qv 1 (.int .u64 ((UInt64.ofNat n1).toNat : Nat)) F104 rfl (rn_move (F104.get rfl)) fun _ F106 => ?_; clear F104
    refine qv 2 (.slice A1 m1 c1) F106 rfl (rn_move (F106.get rfl)) fun _ F108 => ?_; clear F106
    refine qv 3 (.int .i64 (m1 : Nat)) F108 rfl (rn_len_slice Tryd.underlying22 (F108.get rfl)) fun _ F110 => ?_; clear F108
    refine qv 4 (.int .u64 ((UInt64.ofNat m1).toNat : Nat)) F110 rfl (rn_convW Tryd.underlying3 Tryd.underlying81 (F110.get rfl) (cvi_64 m1 (by omega))) fun _ F112 => ?_; clear F110
    refine qv 5 (.int .u64 (((UInt64.ofNat n1) + (UInt64.ofNat m1)).toNat : Nat)) F112 rfl (rn_add64 (a := (UInt64.ofNat n1)) (b := (UInt64.ofNat m1)) (F112.get rfl) (F112.get rfl)) fun _ F114 => ?_; clear F112
    refine wpl_op (i := 6) rfl (o_call F114 rfl rfl rfl rfl (rn_call (args4 (F114.get rfl) (F114.get rfl) (F114.get rfl) rfl) rfl (by kernel_rfl)) (absorb_at g13 hh b1 ((UInt64.ofNat n1) + (UInt64.ofNat m1)) true _ b53 hhl hf54 (by omega) (hG.ext ((Ext.refl w).trans hx48))) ?_)
    rintro _ w115 ⟨rfl, b116, hg117⟩
    refine ⟨_, rfl, ?_⟩; intro a118 F119; clear F114; have z120 := hg117.size
    refine wpList_nil ?_
    refine hK102 _ _ ?_
    clear hK102
    have F121 := (((((F119.nil.c F119 13 rfl).c F119 4 rfl).c F119 3 rfl).c F119 2 rfl).c F119 0 rfl)
    clear F119
    refine wp_seq_k (fun K122 hK122 => ?_)
    refine wp_seq_k (fun K123 hK123 => ?_)
    refine wp_region_lit ?_
    refine qv 0 (.int .i64 0) F121 rfl (rn_move rfl) fun _ F125 => ?_; clear F121
    refine wpList_nil ?_
    refine hK123 _ _ ?_
    clear hK123
    refine wp_block ?_
    obtain ⟨v126, e127⟩ : ∃ z, z = absorb hh b1 ((UInt64.ofNat n1) + (UInt64.ofNat m1)) true := ⟨_, rfl⟩
    have hl128 : v126.length = 8 := (congrArg List.length e127).trans (absorb_len hhl)
    rw [← e127] at b116
    have d129 := (hf54.pres ((Pres.refl w46).grownN hg117 (fun h => by simp only [Clip] at h; omega)))
    have b130 := (b52.grownN hg117 (by omega))
    refine wp_loop (fun a' W => ∃ (k2 : Nat) (dd : List UInt8), Sl 45 [(0, (.slice A1 m1 c1)), (2, (.pointer (some ⟨g2, 0, none⟩))), (3, (.pointer (some ⟨g13, 0, none⟩))), (4, (.int .u64 ((UInt64.ofNat n1).toNat : Nat))), (13, (.bool (decide ((64 : Int) < ((m1 : Nat) : Int))))), (29, (.int .i64 (k2 : Nat)))] a' ∧ k2 ≤ 32 ∧ dd = outTo v126 k2 ∧ Ext w W ∧ Blk W g2 37 (byteVals dd) ∧ Blk W g13 80 (u32Vals v126) ∧ Fl (Clip S w) W 1 (.slice A1 m1 c1) m1 (byteVals b1) ∧ w115.heap.size ≤ W.heap.size) (fun a' _ => 32 - (intOf (a'.eval (.tmp 29))).toNat) ⟨0, (List.replicate 32 0), ((((((F125.nil.cons (q_get F125 (t := 29) rfl (by first | rfl | (congr 1; omega) | (simp only [UInt64.ofNat_add]; rfl)))).cons (q_get F125 (t := 13) rfl rfl)).cons (q_get F125 (t := 4) rfl rfl)).cons (q_get F125 (t := 3) rfl rfl)).cons (q_get F125 (t := 2) rfl rfl)).cons (q_get F125 (t := 0) rfl rfl)), (by omega), rfl, (((Ext.refl w).trans hx48).grownN hg117 (by omega)), b130, b116, d129, (Nat.le_refl _)⟩ ?_
    clear F125
    rintro a131 w132 ⟨k2, dd, F133, hp135, hp136, hx134, b137, b138, hf139, hf140⟩
    have hL141 := F133
    have z142 := hx134.size
    have z143 := b137.lt
    have z144 := b138.lt
    have hdl : dd.length = 32 := by rw [hp136]; exact outTo_len (by omega)
    refine wp_seq_k (fun K145 hK145 => ?_)
    refine wp_region_lit ?_
    refine qv 0 (.bool (decide (((k2 : Nat) : Int) < (32 : Int)))) F133 rfl (rn_lss (F133.get rfl) rfl) fun _ F147 => ?_; clear F133
    refine wpList_nil ?_
    refine hK145 _ _ ?_
    clear hK145
    refine wp_seq_k (fun K148 hK148 => ?_)
    by_cases hc149 : ((k2 : Nat) : Int) < (32 : Int)
    · skip
      refine wp_cond_true (c_true F147 rfl (decide_eq_true hc149)) ?_
      refine wp_skip ?_
      refine hK148 _ _ ?_
      clear hK148
      refine wp_seq_k (fun K150 hK150 => ?_)
      refine wp_block ?_
      refine wp_seq_k (fun K151 hK151 => ?_)
      refine wp_region_lit ?_
      refine qv 0 (.int .i64 (k2 : Nat)) F147 rfl (rn_move (F147.get rfl)) fun _ F153 => ?_; clear F147
      refine qv 1 (.int .i64 (k2 : Nat)) F153 rfl (rn_assign (F153.get rfl)) fun _ F155 => ?_; clear F153
      refine wpList_nil ?_
      refine hK151 _ _ ?_
      clear hK151
      refine wp_region_lit ?_
      refine qv 0 (.int .i64 (k2 : Nat)) F155 rfl (rn_move (F155.get rfl)) fun _ F157 => ?_; clear F155
      refine qv 1 (.int .i64 (k2 : Nat)) F157 rfl (rn_move (F157.get rfl)) fun _ F159 => ?_; clear F157
      refine qv 2 (.int .i64 (k2 / 4 : Nat)) F159 rfl (rn_quoN (a := k2) (b := 4) (F159.get rfl) rfl (by omega) (by omega)) fun _ F161 => ?_; clear F159
      refine qv 3 (.pointer (some ⟨g13, 0 + (k2 / 4), none⟩)) F161 rfl (rn_indexArr Tryd.underlying80 inf79 (F161.get rfl) (F161.get rfl) (by omega : (0 : Int) ≤ (k2 / 4 : Nat)) (by omega : ((k2 / 4 : Nat) : Int) < ((8 : Nat) : Int))) fun _ F163 => ?_; clear F161
      refine qv 4 (.int .u32 ((v126.getD (k2 / 4) 0).toNat : Nat)) F163 rfl (rn_load (isAgg_no Tryd.underlying79 rfl) (F163.get rfl) (blk_word b138 (by omega) (by have := (show List.length v126 = _ from hl128); omega))) fun _ F165 => ?_; clear F163
      refine qv 5 (.int .i64 (k2 : Nat)) F165 rfl (rn_move (F165.get rfl)) fun _ F167 => ?_; clear F165
      refine qv 6 (.int .i64 (k2 % 4 : Nat)) F167 rfl (rn_remN (a := k2) (b := 4) (F167.get rfl) rfl (by omega)) fun _ F169 => ?_; clear F167
      refine qv 7 (.int .i64 (8 * (k2 % 4) : Nat)) F169 rfl (rn_mulN (a := 8) (b := k2 % 4) rfl (F169.get rfl) (by omega)) fun _ F171 => ?_; clear F169
      refine qv 8 (.int .u32 (((v126.getD (k2 / 4) 0) >>> UInt32.ofNat (8 * (k2 % 4))).toNat : Nat)) F171 rfl (rn_shr32 (a := (v126.getD (k2 / 4) 0)) (n := (8 * (k2 % 4))) (F171.get rfl) (F171.get rfl) (by omega)) fun _ F173 => ?_; clear F171
      refine qv 9 (.int .u8 ((((v126.getD (k2 / 4) 0) >>> UInt32.ofNat (8 * (k2 % 4))).toUInt8).toNat : Nat)) F173 rfl (rn_convW Tryd.underlying79 Tryd.underlying5 (F173.get rfl) (cv32_8 ((v126.getD (k2 / 4) 0) >>> UInt32.ofNat (8 * (k2 % 4))))) fun _ F175 => ?_; clear F173
      refine qv 10 (.pointer (some ⟨g2, 0 + k2, none⟩)) F175 rfl (rn_indexArr Tryd.underlying37 inf5 (F175.get rfl) (F175.get rfl) (by omega : (0 : Int) ≤ (k2 : Nat)) (by omega : ((k2 : Nat) : Int) < ((32 : Nat) : Int))) fun _ F177 => ?_; clear F175
      refine wpl_op (i := 11) rfl (o_store1 (new := (byteVals (dd.set k2 (((v126.getD (k2 / 4) 0) >>> UInt32.ofNat (8 * (k2 % 4))).toUInt8)))) F177 rfl rfl rfl rfl (F177.get rfl) (F177.get rfl) b137 inf5 (by rw [byteVals_len hdl]; omega) rfl (byteVals_set (by omega)) ?_)
      intro w178 b179 hg180; have z181 := hg180.size
      refine wpList_nil ?_
      refine hK150 _ _ ?_
      clear hK150
      have F182 := ((((((((F177.nil.c F177 5 rfl).c F177 30 rfl).c F177 29 rfl).c F177 13 rfl).c F177 4 rfl).c F177 3 rfl).c F177 2 rfl).c F177 0 rfl)
      clear F177
      refine wp_region_lit ?_
      refine qv 0 (.int .i64 (k2 + 1 : Nat)) F182 rfl (rn_addN (a := k2) (b := 1) (F182.get rfl) rfl (by omega)) fun _ F184 => ?_; clear F182
      refine qv 1 (.int .i64 (k2 + 1 : Nat)) F184 rfl (rn_move (F184.get rfl)) fun _ F186 => ?_; clear F184
      refine wpList_nil ?_
      obtain ⟨v187, e188⟩ : ∃ z, z = dd.set k2 (((v126.getD (k2 / 4) 0) >>> UInt32.ofNat (8 * (k2 % 4))).toUInt8) := ⟨_, rfl⟩
      have hl189 : v187.length = 32 := (congrArg List.length e188).trans (show List.length (dd.set k2 (((v126.getD (k2 / 4) 0) >>> UInt32.ofNat (8 * (k2 % 4))).toUInt8)) = _ from List.length_set.trans hdl)
      rw [← e188] at b179
      have d190 := (hf139.pres ((Pres.refl w132).grownN hg180 (fun h => by simp only [Clip] at h; omega)))
      have b191 := (b138.grownN hg180 (by omega))
      refine ⟨⟨(k2 + 1), v187, ((((((F186.nil.cons (q_get F186 (t := 29) rfl (by first | rfl | (congr 1; omega) | (simp only [UInt64.ofNat_add]; rfl)))).cons (q_get F186 (t := 13) rfl rfl)).cons (q_get F186 (t := 4) rfl rfl)).cons (q_get F186 (t := 3) rfl rfl)).cons (q_get F186 (t := 2) rfl rfl)).cons (q_get F186 (t := 0) rfl rfl)), (by omega), (outTo_step (by omega) hp136 e188), (((Ext.refl w).trans hx134).grownN hg180 (by omega)), b179, b191, d190, (by omega)⟩, ?_⟩
      rw [F186.get (t := 29) rfl, hL141.get (t := 29) rfl]; simp [intOf] <;> omega
    · skip
      refine wp_cond_false (c_false F147 rfl (decide_eq_false hc149)) ?_
      refine wp_exit ?_
      refine exit_then ?_
      refine exit_then ?_
      refine exit_here ?_
      refine hK122 _ _ ?_
      clear hK122
      refine wp_seq_k (fun K192 hK192 => ?_)
      refine wp_region_lit ?_
      refine qv 0 (.agg (byteVals dd).toArray) F147 rfl (rn_loadBlk (F147.get rfl) b137 Tryd.underlying37 rfl (inf37.trans (congrArg some (byteVals_len hdl).symm))) fun _ F194 => ?_; clear F147
      refine wpl_op (i := 1) rfl (o_store (cells := (byteVals dd)) F194 rfl rfl rfl rfl (F194.get rfl) (F194.get rfl) b137 (inf37.trans (congrArg some (byteVals_len hdl).symm)) ((byteVals_len hdl).trans (byteVals_len hdl).symm) (byteVals_one _) ?_)
      intro w195 b196 hg197; have z198 := hg197.size
      refine wpList_nil ?_
      refine hK192 _ _ ?_
      clear hK192
      refine wp_ret ?_
      refine retC F194 rfl rfl b196 Tryd.underlying37 rfl (inf37.trans (congrArg some (byteVals_len hdl).symm)) ?_
      have hd : dd = bsum b := by rw [hp136, show k2 = 32 by omega, outTo_all, e127, feed_last hp50 (by omega) hp51]
      exact ⟨by rw [← hd], (((Ext.refl w).trans hx134).grownN hg197 (by omega))⟩

theorem sum_at {v : Value} {n : Nat} (b : List UInt8) (w : World) (hf : Fl S w 1 v n (byteVals b)) (hG : Glob w) : Calls Tryd.prog 51 #[v] w (fun e w' => e = .returned (.agg (byteVals (bsum b)).toArray) ∧ Ext w w') := by
  have hm : n = b.length := by have := hf.len; simp [byteVals] at this; omega
  subst hm
  obtain ⟨A, c, rfl, _⟩ := hf.form
  exact sum_any A c b w hf hG

end Go.Proofs.YtmjgjopbeokajaaDoor
