/- Several texts in one: SealJ, SealK, SealL. -/
import Derived.Test.YtmjgjopbeokajaaDoorProg
import Derived.Test.YtmjgjopbeokajaaDoorBunI
import Derived.KernelRfl
import Derived.Test.YtmjgjopbeokajaaDoorBunA
import Derived.Test.YtmjgjopbeokajaaDoorBunB
namespace Go.Proofs.YtmjgjopbeokajaaDoor
open Go.RowKit

variable {S S' : Nat → Prop}

theorem shown_len {bs : List Bool} {s : Sg} {j : Nat} {b : Bool} (ho : All32 s.op) (hc : All32 s.cl) (h1 : j < s.op.length) (h2 : j < s.cl.length) : (shown bs s j b).length = 32 := by
  unfold shown
  split
  · exact openD_len _
  · exact dig_len hc j h2
theorem pairs_32 {h : Nat → Bool → List UInt8} {k : Nat} (hl : ∀ j b, j < k → (h j b).length = 32) : All32 (pairsL h k) := fun x hx => by
  simp only [pairsL, List.mem_flatMap] at hx
  obtain ⟨j, hj, hx⟩ := hx
  have hj := List.mem_range.1 hj
  rcases List.mem_cons.1 hx with rfl | hx
  · exact hl _ _ hj
  · rw [List.mem_singleton.1 hx]; exact hl _ _ hj
theorem pair_t {bs : List Bool} {s : Sg} {k : Nat} {x : List (List UInt8)} (hx : x = pairsL (shown bs s) k) (h : bs.getD k false = true) : x ++ [s.cl.getD k [], openD (s.op.getD k [])] = pairsL (shown bs s) (k + 1) := by
  rw [hx, ← pairsL_step]; unfold shown; rw [h]; rfl
theorem pair_f {bs : List Bool} {s : Sg} {k : Nat} {x : List (List UInt8)} (hx : x = pairsL (shown bs s) k) (h : bs.getD k false = false) : x ++ [openD (s.op.getD k []), s.cl.getD k []] = pairsL (shown bs s) (k + 1) := by
  rw [hx, ← pairsL_step]; unfold shown; rw [h]; rfl
theorem publicD_pairs (h : Nat → Bool → List UInt8) : tagged [111, 110, 101] (pairsL h 64).flatten = publicD h := by rw [pairsL_flat]; rfl

set_option maxRecDepth 100000 in
set_option maxHeartbeats 1000000 in
theorem shown_any (j : Nat) (b : Bool) (gb gs : Nat) (bs : List Bool) (idx : Int) (O : Option Addr) (oc : Nat) (op : List (List UInt8)) (C : Option Addr) (ec : Nat) (cl pa : List (List UInt8)) (pv : Value) (w : World) (hb : Blk w gb 60 (boolVals bs)) (hs : Blk w gs 30 [.int .i64 idx, .slice O op.length oc, .slice C cl.length ec, pv]) (ho : Fl S w 32 (.slice O op.length oc) op.length (digVals op)) (he : Fl S w 32 (.slice C cl.length ec) cl.length (digVals cl)) (h32o : All32 op) (h32c : All32 cl) (hG : Glob w) (hbs : bs.length = 64) (hj : j < 64) (h1 : op.length = 64) (h2 : cl.length = 64) :
    Calls Tryd.prog 42 #[.int .i64 (j : Nat), .bool b, .pointer (some ⟨gb, 0, none⟩), .pointer (some ⟨gs, 0, none⟩)] w (fun e w' => e = .returned (.agg (byteVals (shown bs ⟨idx, op, cl, pa⟩ j b)).toArray) ∧ Ext w w') := by
  have hco : Fl (Clip S w) w 32 (.slice O op.length oc) op.length (digVals op) := ho.clip
  have hcoc := (Fl.cel hco).2.1
  have hce : Fl (Clip S w) w 32 (.slice C cl.length ec) cl.length (digVals cl) := he.clip
  have hcec := (Fl.cel hce).2.1
  have hgb := hb.lt
  have hgs := hs.lt
  refine calls_enter (l := [(.int .i64 (j : Nat)), (.bool b), (.pointer (some ⟨gb, 0, none⟩)), (.pointer (some ⟨gs, 0, none⟩))]) Tryd.func42 rfl rfl rfl (fun aA hF => ?_)
  refine wp_seq_k (fun K1 hK1 => ?_)
  refine wp_region_lit ?_
  refine wpl_op (i := 0) rfl (o_new (fun g => (.pointer (some ⟨g, 0, none⟩))) (byteVals (List.replicate 32 0)) 37 hF rfl rfl rfl rfl (by kernel_rfl) ?_)
  intro g2 w3 a8 F9 z6 z7 b4 hx5; clear hF
  refine wpList_nil ?_
  refine hK1 _ _ ?_
  clear hK1
  refine wp_seq_k (fun K10 hK10 => ?_)
  refine wp_seq_k (fun K11 hK11 => ?_)
  refine wp_region_lit ?_
  refine qv 0 (.int .i64 (j : Nat)) F9 rfl (rn_move (F9.get rfl)) fun _ F13 => ?_; clear F9
  refine qv 1 (.pointer (some ⟨gb, 0 + j, none⟩)) F13 rfl (rn_indexArr Tryd.underlying60 inf4 (F13.get rfl) (F13.get rfl) (by omega : (0 : Int) ≤ (j : Nat)) (by omega : ((j : Nat) : Int) < ((64 : Nat) : Int))) fun _ F15 => ?_; clear F13
  have b16 := (hb.ext hx5)
  refine qv 2 (.bool (bs.getD j false)) F15 rfl (rn_load (isAgg_no Tryd.underlying4 rfl) (F15.get rfl) (blk_boolVals b16 (by omega) (by have := (show List.length bs = _ from hbs); omega))) fun _ F18 => ?_; clear F15
  refine qv 3 (.bool b) F18 rfl (rn_move (F18.get rfl)) fun _ F20 => ?_; clear F18
  rcases Bool.eq_false_or_eq_true (bs.getD j false) with hc21 | hc21
  · skip
    rcases Bool.eq_false_or_eq_true b with hc22 | hc22
    · skip
      refine qv 4 (.bool true) F20 rfl (rn_eqB Tryd.underlying4 (F20.get rfl) (F20.get rfl) (show _ = true from hc21) (show _ = true from hc22) rfl) fun _ F24 => ?_; clear F20
      refine wpList_nil ?_
      refine hK11 _ _ ?_
      clear hK11
      have F25 := ((((((F24.nil.c F24 11 rfl).c F24 6 rfl).c F24 3 rfl).c F24 2 rfl).c F24 1 rfl).c F24 0 rfl)
      clear F24
      refine wp_cond_true (c_true F25 rfl rfl) ?_
      refine wp_seq_k (fun K26 hK26 => ?_)
      refine wp_region_lit ?_
      refine qv 0 (.pointer (some ⟨gs, 1, none⟩)) F25 rfl (rn_field Tryd.underlying30 rfl (by kernel_rfl) (F25.get rfl) rfl) fun _ F28 => ?_; clear F25
      have b29 := (hs.ext hx5)
      refine qv 1 (.slice O op.length oc) F28 rfl (rn_load (isAgg_no Tryd.underlying28 rfl) (F28.get rfl) (b29.rule.1 1)) fun _ F31 => ?_; clear F28
      refine qv 2 (.int .i64 (j : Nat)) F31 rfl (rn_move (F31.get rfl)) fun _ F33 => ?_; clear F31
      have d37 := (hco.ext hx5)
      obtain ⟨b34, o35, hA36, -⟩ := Fl.at d37 (by omega)
      refine qv 3 (.pointer (some ⟨b34, o35 + j * 32, none⟩)) F33 rfl (rn_indexE Tryd.underlying28 inf37 ((F33.get rfl).trans (by rw [hA36])) (F33.get rfl) (by omega : (0 : Int) ≤ (j : Nat)) (by omega : ((j : Nat) : Int) < ((op.length : Nat) : Int)) (by omega)) fun _ F39 => ?_; clear F33
      refine qv 4 (.agg (byteVals (op.getD j [])).toArray) F39 rfl (rn_loadN (cs := byteVals (op.getD j [])) (F39.get rfl) Tryd.underlying37 rfl (inf37.trans (congrArg some (byteVals_len (dig_len h32o j (by omega))).symm)) (Fl.digAt d37 hA36 h32o (by omega))) fun _ F41 => ?_; clear F39
      refine wpl_op (i := 5) rfl (o_call F41 rfl rfl rfl rfl (rn_call (args1 (F41.get rfl)) rfl (by kernel_rfl)) (open_any (op.getD j []) _ (dig_len h32o j (by omega)) (hG.ext ((Ext.refl w).trans hx5))) ?_)
      rintro _ w42 ⟨rfl, hx43⟩
      refine ⟨_, rfl, ?_⟩; intro a44 F45; clear F41; have z46 := hx43.size
      have b50 := (b4.ext hx43)
      refine wpl_op (i := 6) rfl (o_store (cells := (byteVals (openD (op.getD j [])))) F45 rfl rfl rfl rfl (F45.get rfl) (F45.get rfl) b50 (inf37.trans (congrArg some (byteVals_len (openD_len _)).symm)) ((byteVals_len (show List.length (List.replicate 32 0) = _ from List.length_replicate)).trans (byteVals_len (openD_len _)).symm) (byteVals_one _) ?_)
      intro w47 b48 hg49; have z51 := hg49.size
      refine wpList_nil ?_
      refine hK26 _ _ ?_
      clear hK26
      have F52 := ((((((F45.nil.c F45 11 rfl).c F45 6 rfl).c F45 3 rfl).c F45 2 rfl).c F45 1 rfl).c F45 0 rfl)
      clear F45
      refine wp_ret ?_
      refine ret_then ?_
      refine retC F52 rfl rfl b48 Tryd.underlying37 rfl (inf37.trans (congrArg some (byteVals_len (openD_len _)).symm)) ?_
      exact ⟨by rw [shown, if_pos (hc21.trans hc22.symm)], ((((Ext.refl w).trans hx5).trans hx43).grownN hg49 (by omega))⟩
    · skip
      refine qv 4 (.bool false) F20 rfl (rn_eqB Tryd.underlying4 (F20.get rfl) (F20.get rfl) (show _ = true from hc21) (show _ = false from hc22) rfl) fun _ F54 => ?_; clear F20
      refine wpList_nil ?_
      refine hK11 _ _ ?_
      clear hK11
      have F55 := ((((((F54.nil.c F54 11 rfl).c F54 6 rfl).c F54 3 rfl).c F54 2 rfl).c F54 1 rfl).c F54 0 rfl)
      clear F54
      refine wp_cond_false (c_false F55 rfl rfl) ?_
      refine wp_skip ?_
      refine hK10 _ _ ?_
      clear hK10
      refine wp_seq_k (fun K56 hK56 => ?_)
      refine wp_region_lit ?_
      refine qv 0 (.pointer (some ⟨gs, 2, none⟩)) F55 rfl (rn_field Tryd.underlying30 rfl (by kernel_rfl) (F55.get rfl) rfl) fun _ F58 => ?_; clear F55
      have b59 := (hs.ext hx5)
      refine qv 1 (.slice C cl.length ec) F58 rfl (rn_load (isAgg_no Tryd.underlying28 rfl) (F58.get rfl) (b59.rule.1 2)) fun _ F61 => ?_; clear F58
      refine qv 2 (.int .i64 (j : Nat)) F61 rfl (rn_move (F61.get rfl)) fun _ F63 => ?_; clear F61
      have d67 := (hce.ext hx5)
      obtain ⟨b64, o65, hA66, -⟩ := Fl.at d67 (by omega)
      refine qv 3 (.pointer (some ⟨b64, o65 + j * 32, none⟩)) F63 rfl (rn_indexE Tryd.underlying28 inf37 ((F63.get rfl).trans (by rw [hA66])) (F63.get rfl) (by omega : (0 : Int) ≤ (j : Nat)) (by omega : ((j : Nat) : Int) < ((cl.length : Nat) : Int)) (by omega)) fun _ F69 => ?_; clear F63
      refine qv 4 (.agg (byteVals (cl.getD j [])).toArray) F69 rfl (rn_loadN (cs := byteVals (cl.getD j [])) (F69.get rfl) Tryd.underlying37 rfl (inf37.trans (congrArg some (byteVals_len (dig_len h32c j (by omega))).symm)) (Fl.digAt d67 hA66 h32c (by omega))) fun _ F71 => ?_; clear F69
      refine wpl_op (i := 5) rfl (o_store (cells := (byteVals (cl.getD j []))) F71 rfl rfl rfl rfl (F71.get rfl) (F71.get rfl) b4 (inf37.trans (congrArg some (byteVals_len (dig_len h32c j (by omega))).symm)) ((byteVals_len (show List.length (List.replicate 32 0) = _ from List.length_replicate)).trans (byteVals_len (dig_len h32c j (by omega))).symm) (byteVals_one _) ?_)
      intro w72 b73 hg74; have z75 := hg74.size
      refine wpList_nil ?_
      refine hK56 _ _ ?_
      clear hK56
      have F76 := ((((((F71.nil.c F71 11 rfl).c F71 6 rfl).c F71 3 rfl).c F71 2 rfl).c F71 1 rfl).c F71 0 rfl)
      clear F71
      refine wp_ret ?_
      refine retC F76 rfl rfl b73 Tryd.underlying37 rfl (inf37.trans (congrArg some (byteVals_len (dig_len h32c j (by omega))).symm)) ?_
      exact ⟨by rw [shown, if_neg (by rw [hc21, hc22]; decide)], (((Ext.refl w).trans hx5).grownN hg74 (by omega))⟩
  · skip
    rcases Bool.eq_false_or_eq_true b with hc77 | hc77
    · skip
      refine qv 4 (.bool false) F20 rfl (rn_eqB Tryd.underlying4 (F20.get rfl) (F20.get rfl) (show _ = false from hc21) (show _ = true from hc77) rfl) fun _ F79 => ?_; clear F20
      refine wpList_nil ?_
      refine hK11 _ _ ?_
      clear hK11
      have F80 := ((((((F79.nil.c F79 11 rfl).c F79 6 rfl).c F79 3 rfl).c F79 2 rfl).c F79 1 rfl).c F79 0 rfl)
      clear F79
      refine wp_cond_false (c_false F80 rfl rfl) ?_
      refine wp_skip ?_
      refine hK10 _ _ ?_
      clear hK10
      refine wp_seq_k (fun K81 hK81 => ?_)
      refine wp_region_lit ?_
      refine qv 0 (.pointer (some ⟨gs, 2, none⟩)) F80 rfl (rn_field Tryd.underlying30 rfl (by kernel_rfl) (F80.get rfl) rfl) fun _ F83 => ?_; clear F80
      have b84 := (hs.ext hx5)
      refine qv 1 (.slice C cl.length ec) F83 rfl (rn_load (isAgg_no Tryd.underlying28 rfl) (F83.get rfl) (b84.rule.1 2)) fun _ F86 => ?_; clear F83
      refine qv 2 (.int .i64 (j : Nat)) F86 rfl (rn_move (F86.get rfl)) fun _ F88 => ?_; clear F86
      have d92 := (hce.ext hx5)
      obtain ⟨b89, o90, hA91, -⟩ := Fl.at d92 (by omega)
      refine qv 3 (.pointer (some ⟨b89, o90 + j * 32, none⟩)) F88 rfl (rn_indexE Tryd.underlying28 inf37 ((F88.get rfl).trans (by rw [hA91])) (F88.get rfl) (by omega : (0 : Int) ≤ (j : Nat)) (by omega : ((j : Nat) : Int) < ((cl.length : Nat) : Int)) (by omega)) fun _ F94 => ?_; clear F88
      refine qv 4 (.agg (byteVals (cl.getD j [])).toArray) F94 rfl (rn_loadN (cs := byteVals (cl.getD j [])) (F94.get rfl) Tryd.underlying37 rfl (inf37.trans (congrArg some (byteVals_len (dig_len h32c j (by omega))).symm)) (Fl.digAt d92 hA91 h32c (by omega))) fun _ F96 => ?_; clear F94
      refine wpl_op (i := 5) rfl (o_store (cells := (byteVals (cl.getD j []))) F96 rfl rfl rfl rfl (F96.get rfl) (F96.get rfl) b4 (inf37.trans (congrArg some (byteVals_len (dig_len h32c j (by omega))).symm)) ((byteVals_len (show List.length (List.replicate 32 0) = _ from List.length_replicate)).trans (byteVals_len (dig_len h32c j (by omega))).symm) (byteVals_one _) ?_)
      intro w97 b98 hg99; have z100 := hg99.size
      refine wpList_nil ?_
      refine hK81 _ _ ?_
      clear hK81
      have F101 := ((((((F96.nil.c F96 11 rfl).c F96 6 rfl).c F96 3 rfl).c F96 2 rfl).c F96 1 rfl).c F96 0 rfl)
      clear F96
      refine wp_ret ?_
      refine retC F101 rfl rfl b98 Tryd.underlying37 rfl (inf37.trans (congrArg some (byteVals_len (dig_len h32c j (by omega))).symm)) ?_
      exact ⟨by rw [shown, if_neg (by rw [hc21, hc77]; decide)], (((Ext.refl w).trans hx5).grownN hg99 (by omega))⟩
    · skip
      refine qv 4 (.bool true) F20 rfl (rn_eqB Tryd.underlying4 (F20.get rfl) (F20.get rfl) (show _ = false from hc21) (show _ = false from hc77) rfl) fun _ F103 => ?_; clear F20
      refine wpList_nil ?_
      refine hK11 _ _ ?_
      clear hK11
      have F104 := ((((((F103.nil.c F103 11 rfl).c F103 6 rfl).c F103 3 rfl).c F103 2 rfl).c F103 1 rfl).c F103 0 rfl)
      clear F103
      refine wp_cond_true (c_true F104 rfl rfl) ?_
      refine wp_seq_k (fun K105 hK105 => ?_)
      refine wp_region_lit ?_
      refine qv 0 (.pointer (some ⟨gs, 1, none⟩)) F104 rfl (rn_field Tryd.underlying30 rfl (by kernel_rfl) (F104.get rfl) rfl) fun _ F107 => ?_; clear F104
      have b108 := (hs.ext hx5)
      refine qv 1 (.slice O op.length oc) F107 rfl (rn_load (isAgg_no Tryd.underlying28 rfl) (F107.get rfl) (b108.rule.1 1)) fun _ F110 => ?_; clear F107
      refine qv 2 (.int .i64 (j : Nat)) F110 rfl (rn_move (F110.get rfl)) fun _ F112 => ?_; clear F110
      have d116 := (hco.ext hx5)
      obtain ⟨b113, o114, hA115, -⟩ := Fl.at d116 (by omega)
      refine qv 3 (.pointer (some ⟨b113, o114 + j * 32, none⟩)) F112 rfl (rn_indexE Tryd.underlying28 inf37 ((F112.get rfl).trans (by rw [hA115])) (F112.get rfl) (by omega : (0 : Int) ≤ (j : Nat)) (by omega : ((j : Nat) : Int) < ((op.length : Nat) : Int)) (by omega)) fun _ F118 => ?_; clear F112
      refine qv 4 (.agg (byteVals (op.getD j [])).toArray) F118 rfl (rn_loadN (cs := byteVals (op.getD j [])) (F118.get rfl) Tryd.underlying37 rfl (inf37.trans (congrArg some (byteVals_len (dig_len h32o j (by omega))).symm)) (Fl.digAt d116 hA115 h32o (by omega))) fun _ F120 => ?_; clear F118
      refine wpl_op (i := 5) rfl (o_call F120 rfl rfl rfl rfl (rn_call (args1 (F120.get rfl)) rfl (by kernel_rfl)) (open_any (op.getD j []) _ (dig_len h32o j (by omega)) (hG.ext ((Ext.refl w).trans hx5))) ?_)
      rintro _ w121 ⟨rfl, hx122⟩
      refine ⟨_, rfl, ?_⟩; intro a123 F124; clear F120; have z125 := hx122.size
      have b129 := (b4.ext hx122)
      refine wpl_op (i := 6) rfl (o_store (cells := (byteVals (openD (op.getD j [])))) F124 rfl rfl rfl rfl (F124.get rfl) (F124.get rfl) b129 (inf37.trans (congrArg some (byteVals_len (openD_len _)).symm)) ((byteVals_len (show List.length (List.replicate 32 0) = _ from List.length_replicate)).trans (byteVals_len (openD_len _)).symm) (byteVals_one _) ?_)
      intro w126 b127 hg128; have z130 := hg128.size
      refine wpList_nil ?_
      refine hK105 _ _ ?_
      clear hK105
      have F131 := ((((((F124.nil.c F124 11 rfl).c F124 6 rfl).c F124 3 rfl).c F124 2 rfl).c F124 1 rfl).c F124 0 rfl)
      clear F124
      refine wp_ret ?_
      refine ret_then ?_
      refine retC F131 rfl rfl b127 Tryd.underlying37 rfl (inf37.trans (congrArg some (byteVals_len (openD_len _)).symm)) ?_
      exact ⟨by rw [shown, if_pos (hc21.trans hc77.symm)], ((((Ext.refl w).trans hx5).trans hx122).grownN hg128 (by omega))⟩

set_option maxRecDepth 100000 in
set_option maxHeartbeats 1000000 in
theorem verify_any (root : List UInt8) (n : Int) (B : Option Addr) (cb : Nat) (msg : List UInt8) (idx : Int) (O : Option Addr) (oc : Nat) (op : List (List UInt8)) (C : Option Addr) (ec : Nat) (cl : List (List UInt8)) (P : Option Addr) (pc : Nat) (pa : List (List UInt8)) (w : World) (hd : root.length = 32) (hm : Fl S w 1 (.slice B msg.length cb) msg.length (byteVals msg)) (ho : Fl S w 32 (.slice O op.length oc) op.length (digVals op)) (he : Fl S w 32 (.slice C cl.length ec) cl.length (digVals cl)) (hp : Fl S w 32 (.slice P pa.length pc) pa.length (digVals pa)) (h32o : All32 op) (h32c : All32 cl) (h32p : All32 pa) (hG : Glob w) :
    Calls Tryd.prog 18 #[.agg (byteVals root).toArray, .int .i64 n, .slice B msg.length cb, .agg #[.int .i64 idx, .slice O op.length oc, .slice C cl.length ec, .slice P pa.length pc]] w (fun e w' => e = .returned (.bool (verifyF root n msg ⟨idx, op, cl, pa⟩)) ∧ Ext w w') := by
  have hb : Fl (Clip S w) w 1 (.slice B msg.length cb) msg.length (byteVals msg) := hm.clip
  have hbc := (Fl.cel hb).2.1
  have hco : Fl (Clip S w) w 32 (.slice O op.length oc) op.length (digVals op) := ho.clip
  have hcoc := (Fl.cel hco).2.1
  have hce : Fl (Clip S w) w 32 (.slice C cl.length ec) cl.length (digVals cl) := he.clip
  have hcec := (Fl.cel hce).2.1
  have hcp : Fl (Clip S w) w 32 (.slice P pa.length pc) pa.length (digVals pa) := hp.clip
  have hcpc := (Fl.cel hcp).2.1
  refine calls_enter (l := [(.agg (byteVals root).toArray), (.int .i64 n), (.slice B msg.length cb), (.agg #[(.int .i64 idx), (.slice O op.length oc), (.slice C cl.length ec), (.slice P pa.length pc)])]) Tryd.func18 rfl rfl rfl (fun aA hF => ?_)
  refine wp_seq_k (fun K1 hK1 => ?_)
  refine wp_region_lit ?_
  refine wpl_op (i := 0) rfl (o_new (fun g => (.pointer (some ⟨g, 0, none⟩))) (byteVals root) 37 hF rfl rfl rfl rfl (rn_box (hF.get rfl) (box_arr _)) ?_)
  intro g2 w3 a8 F9 z6 z7 b4 hx5; clear hF
  refine wpl_op (i := 1) rfl (o_new (fun g => (.pointer (some ⟨g, 0, none⟩))) [(.int .i64 idx), (.slice O op.length oc), (.slice C cl.length ec), (.slice P pa.length pc)] 30 F9 rfl rfl rfl rfl (rn_box (F9.get rfl) (by kernel_rfl)) ?_)
  intro g10 w11 a16 F17 z14 z15 b12 hx13; clear F9
  refine qv 2 (.bool false) F17 rfl (rn_assign rfl) fun _ F19 => ?_; clear F17
  refine wpList_nil ?_
  refine hK1 _ _ ?_
  clear hK1
  refine wp_seq_k (fun K20 hK20 => ?_)
  refine wp_seq_k (fun K21 hK21 => ?_)
  refine wp_region_lit ?_
  refine qv 0 (.int .i64 n) F19 rfl (rn_move (F19.get rfl)) fun _ F23 => ?_; clear F19
  refine qv 1 (.bool (decide ((n : Int) < (1 : Int)))) F23 rfl (rn_lss (F23.get rfl) rfl) fun _ F25 => ?_; clear F23
  refine qv 2 (.bool (decide ((n : Int) < (1 : Int)))) F25 rfl (rn_move (F25.get rfl)) fun _ F27 => ?_; clear F25
  by_cases hc28 : (n : Int) < (1 : Int)
  · skip
    refine qu 3 F27 (decide_eq_true hc28) fun _ F30 => ?_; clear F27
    refine qu 4 F30 (decide_eq_true hc28) fun _ F32 => ?_; clear F30
    refine qv 5 (.bool true) F32 rfl (rn_pickT (c_true F32 rfl (decide_eq_true hc28)) rfl) fun _ F34 => ?_; clear F32
    refine qv 6 (.bool true) F34 rfl (rn_move (F34.get rfl)) fun _ F36 => ?_; clear F34
    refine qu 7 F36 rfl fun _ F38 => ?_; clear F36
    refine qu 8 F38 rfl fun _ F40 => ?_; clear F38
    refine qu 9 F40 rfl fun _ F42 => ?_; clear F40
    refine qv 10 (.bool true) F42 rfl (rn_pickT (c_true F42 rfl rfl) rfl) fun _ F44 => ?_; clear F42
    refine qv 11 (.bool true) F44 rfl (rn_move (F44.get rfl)) fun _ F46 => ?_; clear F44
    refine qu 12 F46 rfl fun _ F48 => ?_; clear F46
    refine qu 13 F48 rfl fun _ F50 => ?_; clear F48
    refine qu 14 F50 rfl fun _ F52 => ?_; clear F50
    refine qu 15 F52 rfl fun _ F54 => ?_; clear F52
    refine qv 16 (.bool true) F54 rfl (rn_pickT (c_true F54 rfl rfl) rfl) fun _ F56 => ?_; clear F54
    refine qv 17 (.bool true) F56 rfl (rn_move (F56.get rfl)) fun _ F58 => ?_; clear F56
    refine qu 18 F58 rfl fun _ F60 => ?_; clear F58
    refine qu 19 F60 rfl fun _ F62 => ?_; clear F60
    refine qu 20 F62 rfl fun _ F64 => ?_; clear F62
    refine qu 21 F64 rfl fun _ F66 => ?_; clear F64
    refine qv 22 (.bool true) F66 rfl (rn_pickT (c_true F66 rfl rfl) rfl) fun _ F68 => ?_; clear F66
    refine qv 23 (.bool true) F68 rfl (rn_move (F68.get rfl)) fun _ F70 => ?_; clear F68
    refine qu 24 F70 rfl fun _ F72 => ?_; clear F70
    refine qu 25 F72 rfl fun _ F74 => ?_; clear F72
    refine qu 26 F74 rfl fun _ F76 => ?_; clear F74
    refine qu 27 F76 rfl fun _ F78 => ?_; clear F76
    refine qv 28 (.bool true) F78 rfl (rn_pickT (c_true F78 rfl rfl) rfl) fun _ F80 => ?_; clear F78
    refine qv 29 (.bool true) F80 rfl (rn_move (F80.get rfl)) fun _ F82 => ?_; clear F80
    refine qu 30 F82 rfl fun _ F84 => ?_; clear F82
    refine qu 31 F84 rfl fun _ F86 => ?_; clear F84
    refine qu 32 F86 rfl fun _ F88 => ?_; clear F86
    refine qv 33 (.bool true) F88 rfl (rn_pickT (c_true F88 rfl rfl) rfl) fun _ F90 => ?_; clear F88
    refine wpList_nil ?_
    refine hK21 _ _ ?_
    clear hK21
    have F91 := ((((((((F90.nil.c F90 46 rfl).c F90 8 rfl).c F90 7 rfl).c F90 4 rfl).c F90 3 rfl).c F90 2 rfl).c F90 1 rfl).c F90 0 rfl)
    clear F90
    refine wp_cond_true (c_true F91 rfl rfl) ?_
    refine wp_seq_k (fun K92 hK92 => ?_)
    refine wp_region_lit ?_
    refine qv 0 (.bool false) F91 rfl (rn_assign rfl) fun _ F94 => ?_; clear F91
    refine wpList_nil ?_
    refine hK92 _ _ ?_
    clear hK92
    refine wp_ret ?_
    refine ret_then ?_
    refine ret1 F94 rfl rfl ?_
    exact ⟨by rw [verify_not (s := ⟨idx, op, cl, pa⟩) (by unfold vShape; simp only; omega)], (((Ext.refl w).trans hx5).trans hx13)⟩
  · skip
    refine qg 3 (.int .i64 n) F27 (decide_eq_false hc28) (rn_move (F27.get rfl)) fun _ F96 => ?_; clear F27
    refine qg 4 (.bool (decide ((4096 : Int) < (n : Int)))) F96 (decide_eq_false hc28) (rn_gtr (F96.get rfl) rfl) fun _ F98 => ?_; clear F96
    refine qv 5 (.bool (decide ((4096 : Int) < (n : Int)))) F98 rfl (rn_pickF (c_false F98 rfl (decide_eq_false hc28)) (F98.get rfl)) fun _ F100 => ?_; clear F98
    refine qv 6 (.bool (decide ((4096 : Int) < (n : Int)))) F100 rfl (rn_move (F100.get rfl)) fun _ F102 => ?_; clear F100
    by_cases hc103 : (4096 : Int) < (n : Int)
    · skip
      refine qu 7 F102 (decide_eq_true hc103) fun _ F105 => ?_; clear F102
      refine qu 8 F105 (decide_eq_true hc103) fun _ F107 => ?_; clear F105
      refine qu 9 F107 (decide_eq_true hc103) fun _ F109 => ?_; clear F107
      refine qv 10 (.bool true) F109 rfl (rn_pickT (c_true F109 rfl (decide_eq_true hc103)) rfl) fun _ F111 => ?_; clear F109
      refine qv 11 (.bool true) F111 rfl (rn_move (F111.get rfl)) fun _ F113 => ?_; clear F111
      refine qu 12 F113 rfl fun _ F115 => ?_; clear F113
      refine qu 13 F115 rfl fun _ F117 => ?_; clear F115
      refine qu 14 F117 rfl fun _ F119 => ?_; clear F117
      refine qu 15 F119 rfl fun _ F121 => ?_; clear F119
      refine qv 16 (.bool true) F121 rfl (rn_pickT (c_true F121 rfl rfl) rfl) fun _ F123 => ?_; clear F121
      refine qv 17 (.bool true) F123 rfl (rn_move (F123.get rfl)) fun _ F125 => ?_; clear F123
      refine qu 18 F125 rfl fun _ F127 => ?_; clear F125
      refine qu 19 F127 rfl fun _ F129 => ?_; clear F127
      refine qu 20 F129 rfl fun _ F131 => ?_; clear F129
      refine qu 21 F131 rfl fun _ F133 => ?_; clear F131
      refine qv 22 (.bool true) F133 rfl (rn_pickT (c_true F133 rfl rfl) rfl) fun _ F135 => ?_; clear F133
      refine qv 23 (.bool true) F135 rfl (rn_move (F135.get rfl)) fun _ F137 => ?_; clear F135
      refine qu 24 F137 rfl fun _ F139 => ?_; clear F137
      refine qu 25 F139 rfl fun _ F141 => ?_; clear F139
      refine qu 26 F141 rfl fun _ F143 => ?_; clear F141
      refine qu 27 F143 rfl fun _ F145 => ?_; clear F143
      refine qv 28 (.bool true) F145 rfl (rn_pickT (c_true F145 rfl rfl) rfl) fun _ F147 => ?_; clear F145
      refine qv 29 (.bool true) F147 rfl (rn_move (F147.get rfl)) fun _ F149 => ?_; clear F147
      refine qu 30 F149 rfl fun _ F151 => ?_; clear F149
      refine qu 31 F151 rfl fun _ F153 => ?_; clear F151
      refine qu 32 F153 rfl fun _ F155 => ?_; clear F153
      refine qv 33 (.bool true) F155 rfl (rn_pickT (c_true F155 rfl rfl) rfl) fun _ F157 => ?_; clear F155
      refine wpList_nil ?_
      refine hK21 _ _ ?_
      clear hK21
      have F158 := ((((((((F157.nil.c F157 46 rfl).c F157 8 rfl).c F157 7 rfl).c F157 4 rfl).c F157 3 rfl).c F157 2 rfl).c F157 1 rfl).c F157 0 rfl)
      clear F157
      refine wp_cond_true (c_true F158 rfl rfl) ?_
      refine wp_seq_k (fun K159 hK159 => ?_)
      refine wp_region_lit ?_
      refine qv 0 (.bool false) F158 rfl (rn_assign rfl) fun _ F161 => ?_; clear F158
      refine wpList_nil ?_
      refine hK159 _ _ ?_
      clear hK159
      refine wp_ret ?_
      refine ret_then ?_
      refine ret1 F161 rfl rfl ?_
      exact ⟨by rw [verify_not (s := ⟨idx, op, cl, pa⟩) (by unfold vShape; simp only; omega)], (((Ext.refl w).trans hx5).trans hx13)⟩
    · skip
      refine qg 7 (.pointer (some ⟨g10, 0, none⟩)) F102 (decide_eq_false hc103) (rn_field Tryd.underlying30 rfl (by kernel_rfl) (F102.get rfl) rfl) fun _ F163 => ?_; clear F102
      refine qg 8 (.int .i64 idx) F163 (decide_eq_false hc103) (rn_load (isAgg_no Tryd.underlying3 rfl) (F163.get rfl) (b12.rule.1 0)) fun _ F165 => ?_; clear F163
      refine qg 9 (.bool (decide ((idx : Int) < (0 : Int)))) F165 (decide_eq_false hc103) (rn_lss (F165.get rfl) rfl) fun _ F167 => ?_; clear F165
      refine qv 10 (.bool (decide ((idx : Int) < (0 : Int)))) F167 rfl (rn_pickF (c_false F167 rfl (decide_eq_false hc103)) (F167.get rfl)) fun _ F169 => ?_; clear F167
      refine qv 11 (.bool (decide ((idx : Int) < (0 : Int)))) F169 rfl (rn_move (F169.get rfl)) fun _ F171 => ?_; clear F169
      by_cases hc172 : (idx : Int) < (0 : Int)
      · skip
        refine qu 12 F171 (decide_eq_true hc172) fun _ F174 => ?_; clear F171
        refine qu 13 F174 (decide_eq_true hc172) fun _ F176 => ?_; clear F174
        refine qu 14 F176 (decide_eq_true hc172) fun _ F178 => ?_; clear F176
        refine qu 15 F178 (decide_eq_true hc172) fun _ F180 => ?_; clear F178
        refine qv 16 (.bool true) F180 rfl (rn_pickT (c_true F180 rfl (decide_eq_true hc172)) rfl) fun _ F182 => ?_; clear F180
        refine qv 17 (.bool true) F182 rfl (rn_move (F182.get rfl)) fun _ F184 => ?_; clear F182
        refine qu 18 F184 rfl fun _ F186 => ?_; clear F184
        refine qu 19 F186 rfl fun _ F188 => ?_; clear F186
        refine qu 20 F188 rfl fun _ F190 => ?_; clear F188
        refine qu 21 F190 rfl fun _ F192 => ?_; clear F190
        refine qv 22 (.bool true) F192 rfl (rn_pickT (c_true F192 rfl rfl) rfl) fun _ F194 => ?_; clear F192
        refine qv 23 (.bool true) F194 rfl (rn_move (F194.get rfl)) fun _ F196 => ?_; clear F194
        refine qu 24 F196 rfl fun _ F198 => ?_; clear F196
        refine qu 25 F198 rfl fun _ F200 => ?_; clear F198
        refine qu 26 F200 rfl fun _ F202 => ?_; clear F200
        refine qu 27 F202 rfl fun _ F204 => ?_; clear F202
        refine qv 28 (.bool true) F204 rfl (rn_pickT (c_true F204 rfl rfl) rfl) fun _ F206 => ?_; clear F204
        refine qv 29 (.bool true) F206 rfl (rn_move (F206.get rfl)) fun _ F208 => ?_; clear F206
        refine qu 30 F208 rfl fun _ F210 => ?_; clear F208
        refine qu 31 F210 rfl fun _ F212 => ?_; clear F210
        refine qu 32 F212 rfl fun _ F214 => ?_; clear F212
        refine qv 33 (.bool true) F214 rfl (rn_pickT (c_true F214 rfl rfl) rfl) fun _ F216 => ?_; clear F214
        refine wpList_nil ?_
        refine hK21 _ _ ?_
        clear hK21
        have F217 := ((((((((F216.nil.c F216 46 rfl).c F216 8 rfl).c F216 7 rfl).c F216 4 rfl).c F216 3 rfl).c F216 2 rfl).c F216 1 rfl).c F216 0 rfl)
        clear F216
        refine wp_cond_true (c_true F217 rfl rfl) ?_
        refine wp_seq_k (fun K218 hK218 => ?_)
        refine wp_region_lit ?_
        refine qv 0 (.bool false) F217 rfl (rn_assign rfl) fun _ F220 => ?_; clear F217
        refine wpList_nil ?_
        refine hK218 _ _ ?_
        clear hK218
        refine wp_ret ?_
        refine ret_then ?_
        refine ret1 F220 rfl rfl ?_
        exact ⟨by rw [verify_not (s := ⟨idx, op, cl, pa⟩) (by unfold vShape; simp only; omega)], (((Ext.refl w).trans hx5).trans hx13)⟩
      · skip
        refine qg 12 (.pointer (some ⟨g10, 0, none⟩)) F171 (decide_eq_false hc172) (rn_field Tryd.underlying30 rfl (by kernel_rfl) (F171.get rfl) rfl) fun _ F222 => ?_; clear F171
        refine qg 13 (.int .i64 idx) F222 (decide_eq_false hc172) (rn_load (isAgg_no Tryd.underlying3 rfl) (F222.get rfl) (b12.rule.1 0)) fun _ F224 => ?_; clear F222
        refine qg 14 (.int .i64 n) F224 (decide_eq_false hc172) (rn_move (F224.get rfl)) fun _ F226 => ?_; clear F224
        refine qg 15 (.bool (decide ((n : Int) ≤ (idx : Int)))) F226 (decide_eq_false hc172) (rn_geq (F226.get rfl) (F226.get rfl)) fun _ F228 => ?_; clear F226
        refine qv 16 (.bool (decide ((n : Int) ≤ (idx : Int)))) F228 rfl (rn_pickF (c_false F228 rfl (decide_eq_false hc172)) (F228.get rfl)) fun _ F230 => ?_; clear F228
        refine qv 17 (.bool (decide ((n : Int) ≤ (idx : Int)))) F230 rfl (rn_move (F230.get rfl)) fun _ F232 => ?_; clear F230
        by_cases hc233 : (n : Int) ≤ (idx : Int)
        · skip
          refine qu 18 F232 (decide_eq_true hc233) fun _ F235 => ?_; clear F232
          refine qu 19 F235 (decide_eq_true hc233) fun _ F237 => ?_; clear F235
          refine qu 20 F237 (decide_eq_true hc233) fun _ F239 => ?_; clear F237
          refine qu 21 F239 (decide_eq_true hc233) fun _ F241 => ?_; clear F239
          refine qv 22 (.bool true) F241 rfl (rn_pickT (c_true F241 rfl (decide_eq_true hc233)) rfl) fun _ F243 => ?_; clear F241
          refine qv 23 (.bool true) F243 rfl (rn_move (F243.get rfl)) fun _ F245 => ?_; clear F243
          refine qu 24 F245 rfl fun _ F247 => ?_; clear F245
          refine qu 25 F247 rfl fun _ F249 => ?_; clear F247
          refine qu 26 F249 rfl fun _ F251 => ?_; clear F249
          refine qu 27 F251 rfl fun _ F253 => ?_; clear F251
          refine qv 28 (.bool true) F253 rfl (rn_pickT (c_true F253 rfl rfl) rfl) fun _ F255 => ?_; clear F253
          refine qv 29 (.bool true) F255 rfl (rn_move (F255.get rfl)) fun _ F257 => ?_; clear F255
          refine qu 30 F257 rfl fun _ F259 => ?_; clear F257
          refine qu 31 F259 rfl fun _ F261 => ?_; clear F259
          refine qu 32 F261 rfl fun _ F263 => ?_; clear F261
          refine qv 33 (.bool true) F263 rfl (rn_pickT (c_true F263 rfl rfl) rfl) fun _ F265 => ?_; clear F263
          refine wpList_nil ?_
          refine hK21 _ _ ?_
          clear hK21
          have F266 := ((((((((F265.nil.c F265 46 rfl).c F265 8 rfl).c F265 7 rfl).c F265 4 rfl).c F265 3 rfl).c F265 2 rfl).c F265 1 rfl).c F265 0 rfl)
          clear F265
          refine wp_cond_true (c_true F266 rfl rfl) ?_
          refine wp_seq_k (fun K267 hK267 => ?_)
          refine wp_region_lit ?_
          refine qv 0 (.bool false) F266 rfl (rn_assign rfl) fun _ F269 => ?_; clear F266
          refine wpList_nil ?_
          refine hK267 _ _ ?_
          clear hK267
          refine wp_ret ?_
          refine ret_then ?_
          refine ret1 F269 rfl rfl ?_
          exact ⟨by rw [verify_not (s := ⟨idx, op, cl, pa⟩) (by unfold vShape; simp only; omega)], (((Ext.refl w).trans hx5).trans hx13)⟩
        · skip
          refine qg 18 (.pointer (some ⟨g10, 1, none⟩)) F232 (decide_eq_false hc233) (rn_field Tryd.underlying30 rfl (by kernel_rfl) (F232.get rfl) rfl) fun _ F271 => ?_; clear F232
          refine qg 19 (.slice O op.length oc) F271 (decide_eq_false hc233) (rn_load (isAgg_no Tryd.underlying28 rfl) (F271.get rfl) (b12.rule.1 1)) fun _ F273 => ?_; clear F271
          refine qg 20 (.int .i64 (op.length : Nat)) F273 (decide_eq_false hc233) (rn_len_slice Tryd.underlying28 (F273.get rfl)) fun _ F275 => ?_; clear F273
          refine qg 21 (.bool (decide (((op.length : Nat) : Int) ≠ (64 : Int)))) F275 (decide_eq_false hc233) (rn_neq (F275.get rfl) rfl) fun _ F277 => ?_; clear F275
          refine qv 22 (.bool (decide (((op.length : Nat) : Int) ≠ (64 : Int)))) F277 rfl (rn_pickF (c_false F277 rfl (decide_eq_false hc233)) (F277.get rfl)) fun _ F279 => ?_; clear F277
          refine qv 23 (.bool (decide (((op.length : Nat) : Int) ≠ (64 : Int)))) F279 rfl (rn_move (F279.get rfl)) fun _ F281 => ?_; clear F279
          by_cases hc282 : ((op.length : Nat) : Int) ≠ (64 : Int)
          · skip
            refine qu 24 F281 (decide_eq_true hc282) fun _ F284 => ?_; clear F281
            refine qu 25 F284 (decide_eq_true hc282) fun _ F286 => ?_; clear F284
            refine qu 26 F286 (decide_eq_true hc282) fun _ F288 => ?_; clear F286
            refine qu 27 F288 (decide_eq_true hc282) fun _ F290 => ?_; clear F288
            refine qv 28 (.bool true) F290 rfl (rn_pickT (c_true F290 rfl (decide_eq_true hc282)) rfl) fun _ F292 => ?_; clear F290
            refine qv 29 (.bool true) F292 rfl (rn_move (F292.get rfl)) fun _ F294 => ?_; clear F292
            refine qu 30 F294 rfl fun _ F296 => ?_; clear F294
            refine qu 31 F296 rfl fun _ F298 => ?_; clear F296
            refine qu 32 F298 rfl fun _ F300 => ?_; clear F298
            refine qv 33 (.bool true) F300 rfl (rn_pickT (c_true F300 rfl rfl) rfl) fun _ F302 => ?_; clear F300
            refine wpList_nil ?_
            refine hK21 _ _ ?_
            clear hK21
            have F303 := ((((((((F302.nil.c F302 46 rfl).c F302 8 rfl).c F302 7 rfl).c F302 4 rfl).c F302 3 rfl).c F302 2 rfl).c F302 1 rfl).c F302 0 rfl)
            clear F302
            refine wp_cond_true (c_true F303 rfl rfl) ?_
            refine wp_seq_k (fun K304 hK304 => ?_)
            refine wp_region_lit ?_
            refine qv 0 (.bool false) F303 rfl (rn_assign rfl) fun _ F306 => ?_; clear F303
            refine wpList_nil ?_
            refine hK304 _ _ ?_
            clear hK304
            refine wp_ret ?_
            refine ret_then ?_
            refine ret1 F306 rfl rfl ?_
            exact ⟨by rw [verify_not (s := ⟨idx, op, cl, pa⟩) (by unfold vShape; simp only; omega)], (((Ext.refl w).trans hx5).trans hx13)⟩
          · skip
            refine qg 24 (.pointer (some ⟨g10, 2, none⟩)) F281 (decide_eq_false hc282) (rn_field Tryd.underlying30 rfl (by kernel_rfl) (F281.get rfl) rfl) fun _ F308 => ?_; clear F281
            refine qg 25 (.slice C cl.length ec) F308 (decide_eq_false hc282) (rn_load (isAgg_no Tryd.underlying28 rfl) (F308.get rfl) (b12.rule.1 2)) fun _ F310 => ?_; clear F308
            refine qg 26 (.int .i64 (cl.length : Nat)) F310 (decide_eq_false hc282) (rn_len_slice Tryd.underlying28 (F310.get rfl)) fun _ F312 => ?_; clear F310
            refine qg 27 (.bool (decide (((cl.length : Nat) : Int) ≠ (64 : Int)))) F312 (decide_eq_false hc282) (rn_neq (F312.get rfl) rfl) fun _ F314 => ?_; clear F312
            refine qv 28 (.bool (decide (((cl.length : Nat) : Int) ≠ (64 : Int)))) F314 rfl (rn_pickF (c_false F314 rfl (decide_eq_false hc282)) (F314.get rfl)) fun _ F316 => ?_; clear F314
            refine qv 29 (.bool (decide (((cl.length : Nat) : Int) ≠ (64 : Int)))) F316 rfl (rn_move (F316.get rfl)) fun _ F318 => ?_; clear F316
            by_cases hc319 : ((cl.length : Nat) : Int) ≠ (64 : Int)
            · skip
              refine qu 30 F318 (decide_eq_true hc319) fun _ F321 => ?_; clear F318
              refine qu 31 F321 (decide_eq_true hc319) fun _ F323 => ?_; clear F321
              refine qu 32 F323 (decide_eq_true hc319) fun _ F325 => ?_; clear F323
              refine qv 33 (.bool true) F325 rfl (rn_pickT (c_true F325 rfl (decide_eq_true hc319)) rfl) fun _ F327 => ?_; clear F325
              refine wpList_nil ?_
              refine hK21 _ _ ?_
              clear hK21
              have F328 := ((((((((F327.nil.c F327 46 rfl).c F327 8 rfl).c F327 7 rfl).c F327 4 rfl).c F327 3 rfl).c F327 2 rfl).c F327 1 rfl).c F327 0 rfl)
              clear F327
              refine wp_cond_true (c_true F328 rfl rfl) ?_
              refine wp_seq_k (fun K329 hK329 => ?_)
              refine wp_region_lit ?_
              refine qv 0 (.bool false) F328 rfl (rn_assign rfl) fun _ F331 => ?_; clear F328
              refine wpList_nil ?_
              refine hK329 _ _ ?_
              clear hK329
              refine wp_ret ?_
              refine ret_then ?_
              refine ret1 F331 rfl rfl ?_
              exact ⟨by rw [verify_not (s := ⟨idx, op, cl, pa⟩) (by unfold vShape; simp only; omega)], (((Ext.refl w).trans hx5).trans hx13)⟩
            · skip
              refine qg 30 (.slice B msg.length cb) F318 (decide_eq_false hc319) (rn_move (F318.get rfl)) fun _ F333 => ?_; clear F318
              refine qg 31 (.int .i64 (msg.length : Nat)) F333 (decide_eq_false hc319) (rn_len_slice Tryd.underlying22 (F333.get rfl)) fun _ F335 => ?_; clear F333
              refine qg 32 (.bool (decide ((65536 : Int) < ((msg.length : Nat) : Int)))) F335 (decide_eq_false hc319) (rn_gtr (F335.get rfl) rfl) fun _ F337 => ?_; clear F335
              refine qv 33 (.bool (decide ((65536 : Int) < ((msg.length : Nat) : Int)))) F337 rfl (rn_pickF (c_false F337 rfl (decide_eq_false hc319)) (F337.get rfl)) fun _ F339 => ?_; clear F337
              refine wpList_nil ?_
              refine hK21 _ _ ?_
              clear hK21
              have F340 := ((((((((F339.nil.c F339 46 rfl).c F339 8 rfl).c F339 7 rfl).c F339 4 rfl).c F339 3 rfl).c F339 2 rfl).c F339 1 rfl).c F339 0 rfl)
              clear F339
              by_cases hc341 : (65536 : Int) < ((msg.length : Nat) : Int)
              · skip
                refine wp_cond_true (c_true F340 rfl (decide_eq_true hc341)) ?_
                refine wp_seq_k (fun K342 hK342 => ?_)
                refine wp_region_lit ?_
                refine qv 0 (.bool false) F340 rfl (rn_assign rfl) fun _ F344 => ?_; clear F340
                refine wpList_nil ?_
                refine hK342 _ _ ?_
                clear hK342
                refine wp_ret ?_
                refine ret_then ?_
                refine ret1 F344 rfl rfl ?_
                exact ⟨by rw [verify_not (s := ⟨idx, op, cl, pa⟩) (by unfold vShape; simp only; omega)], (((Ext.refl w).trans hx5).trans hx13)⟩
              · skip
                refine wp_cond_false (c_false F340 rfl (decide_eq_false hc341)) ?_
                refine wp_skip ?_
                refine hK20 _ _ ?_
                clear hK20
                refine wp_seq_k (fun K345 hK345 => ?_)
                refine wp_region_lit ?_
                have b346 := (b4.ext hx13)
                refine qv 0 (.agg (byteVals root).toArray) F340 rfl (rn_loadBlk (F340.get rfl) b346 Tryd.underlying37 rfl (inf37.trans (congrArg some (byteVals_len hd).symm))) fun _ F348 => ?_; clear F340
                refine qv 1 (.pointer (some ⟨g10, 0, none⟩)) F348 rfl (rn_field Tryd.underlying30 rfl (by kernel_rfl) (F348.get rfl) rfl) fun _ F350 => ?_; clear F348
                refine qv 2 (.int .i64 idx) F350 rfl (rn_load (isAgg_no Tryd.underlying3 rfl) (F350.get rfl) (b12.rule.1 0)) fun _ F352 => ?_; clear F350
                refine qv 3 (.slice B msg.length cb) F352 rfl (rn_move (F352.get rfl)) fun _ F354 => ?_; clear F352
                have d355 := ((hb.ext hx5).ext hx13)
                have hi356 : (((idx : Int).toNat : Nat) : Int) = idx := by omega
                refine wpl_op (i := 4) rfl (o_call F354 rfl rfl rfl rfl (rn_call (args3 (F354.get rfl) (F354.get rfl) (F354.get rfl)) rfl (by kernel_rfl)) (signed_int (v := (.slice B msg.length cb)) (m := msg.length) root idx msg _ hd d355 (hG.ext (((Ext.refl w).trans hx5).trans hx13)) (by omega) (by omega) (by omega)) ?_)
                rintro _ w357 ⟨rfl, hx358⟩
                refine ⟨_, rfl, ?_⟩; intro a359 F360; clear F354; have z361 := hx358.size
                refine wpl_op (i := 5) rfl (o_new (fun g => (.pointer (some ⟨g, 0, none⟩))) (boolVals (List.replicate 64 false)) 60 F360 rfl rfl rfl rfl (by kernel_rfl) ?_)
                intro g362 w363 a368 F369 z366 z367 b364 hx365; clear F360
                refine wpl_op (i := 6) rfl (o_store (cells := (boolVals (bitsL root ((idx : Int).toNat) msg))) F369 rfl rfl rfl rfl (F369.get rfl) (F369.get rfl) b364 (inf60.trans (congrArg some (boolVals_len (bitsL_len root ((idx : Int).toNat) msg)).symm)) ((boolVals_len (show List.length (List.replicate 64 false) = _ from List.length_replicate)).trans (boolVals_len (bitsL_len root ((idx : Int).toNat) msg)).symm) (boolVals_one _) ?_)
                intro w370 b371 hg372; have z373 := hg372.size
                refine wpList_nil ?_
                refine hK345 _ _ ?_
                clear hK345
                have F374 := (((((((((F369.nil.c F369 9 rfl).c F369 46 rfl).c F369 8 rfl).c F369 7 rfl).c F369 4 rfl).c F369 3 rfl).c F369 2 rfl).c F369 1 rfl).c F369 0 rfl)
                clear F369
                refine wp_seq_k (fun K375 hK375 => ?_)
                refine wp_region_lit ?_
                refine qv 0 (.func (.func 42) #[] #[(.pointer (some ⟨g362, 0, none⟩)), (.pointer (some ⟨g10, 0, none⟩))]) F374 rfl (rn_makeFunc (args0 ) (args2 (F374.get rfl) (F374.get rfl))) fun _ F377 => ?_; clear F374
                refine qv 1 (.func (.func 42) #[] #[(.pointer (some ⟨g362, 0, none⟩)), (.pointer (some ⟨g10, 0, none⟩))]) F377 rfl (rn_assign (F377.get rfl)) fun _ F379 => ?_; clear F377
                refine wpList_nil ?_
                refine hK375 _ _ ?_
                clear hK375
                refine wp_seq_k (fun K380 hK380 => ?_)
                have hx382 : ∃ W, w370.drew = W ∧ Ext w370 W := ⟨_, rfl, (Ext.refl _).drew⟩
                obtain ⟨w381, e383, hx382⟩ := hx382
                have z384 := hx382.size
                refine any_start (fun W => Ext w381 W ∧ Blk W g10 30 [(.int .i64 idx), (.slice O op.length oc), (.slice C cl.length ec), (.slice P pa.length pc)]) (fun i => i == 12) 14 #[false, false, false, false, false, false, false, false, false, false, false, false, false, false] rfl rfl rfl ?_
                rw [e383]; clear e383
                refine any_have (n1 := 2) (L1 := #[true, true, true, true, true, true, true, true, true, true, true, true, false, false]) (fun a' W => ∃ (g449 : Nat), Sl 71 [(0, (.agg (byteVals root).toArray)), (1, (.int .i64 n)), (2, (.slice B msg.length cb)), (3, (.agg #[(.int .i64 idx), (.slice O op.length oc), (.slice C cl.length ec), (.slice P pa.length pc)])), (4, (.pointer (some ⟨g2, 0, none⟩))), (7, (.pointer (some ⟨g10, 0, none⟩))), (8, (.bool false)), (9, (.pointer (some ⟨g362, 0, none⟩))), (10, (.func (.func 42) #[] #[(.pointer (some ⟨g362, 0, none⟩)), (.pointer (some ⟨g10, 0, none⟩))])), (11, (.pointer (some ⟨g449, 0, none⟩))), (46, (.bool (decide ((65536 : Int) < ((msg.length : Nat) : Int))))), (62, (.agg (byteVals ((climbF (publicD (shown (bitsL root ((idx : Int).toNat) msg) ⟨idx, op, cl, pa⟩)) idx n pa).1)).toArray)), (63, (.int .i64 ((climbF (publicD (shown (bitsL root ((idx : Int).toNat) msg) ⟨idx, op, cl, pa⟩)) idx n pa).2)))] a' ∧ Ext w381 W ∧ Blk W g449 37 (byteVals (List.replicate 32 0)) ∧ w381.heap.size ≤ g449) ?_ (fun st464 => ?_)
                · skip
                  rintro a465 w466 ⟨g449, F467, hx468, b469, z470⟩
                  clear F379
                  have z471 := hx468.size
                  have z472 := b469.lt
                  refine any_one (i := 12) (by decide +kernel) rfl ?_
                  refine o_store (cells := (byteVals ((climbF (publicD (shown (bitsL root ((idx : Int).toNat) msg) ⟨idx, op, cl, pa⟩)) idx n pa).1))) F467 rfl rfl rfl rfl (F467.get rfl) (F467.get rfl) b469 (inf37.trans (congrArg some (byteVals_len (climbF_len _ _ _ _)).symm)) ((byteVals_len (show List.length (List.replicate 32 0) = _ from List.length_replicate)).trans (byteVals_len (climbF_len _ _ _ _)).symm) (byteVals_one _) ?_
                  intro w473 b474 hg475; have z476 := hg475.size
                  refine ⟨fun h => absurd h (by decide), ?_⟩
                  refine qp 13 (.int .i64 ((climbF (publicD (shown (bitsL root ((idx : Int).toNat) msg) ⟨idx, op, cl, pa⟩)) idx n pa).2)) F467 rfl rfl (fun W => (rn_assign (F467.get rfl))) fun _ F478 => ?_; clear F467
                  refine any_nil (by decide +kernel) ?_
                  refine hK380 _ _ ?_
                  clear hK380
                  refine wp_seq_k (fun K479 hK479 => ?_)
                  refine wp_region_lit ?_
                  refine qv 0 (.int .i64 ((climbF (publicD (shown (bitsL root ((idx : Int).toNat) msg) ⟨idx, op, cl, pa⟩)) idx n pa).2)) F478 rfl (rn_move (F478.get rfl)) fun _ F481 => ?_; clear F478
                  refine qv 1 (.bool (decide (((climbF (publicD (shown (bitsL root ((idx : Int).toNat) msg) ⟨idx, op, cl, pa⟩)) idx n pa).2 : Int) = (0 : Int)))) F481 rfl (rn_eql (F481.get rfl) rfl) fun _ F483 => ?_; clear F481
                  refine qv 2 (.bool (decide (((climbF (publicD (shown (bitsL root ((idx : Int).toNat) msg) ⟨idx, op, cl, pa⟩)) idx n pa).2 : Int) = (0 : Int)))) F483 rfl (rn_move (F483.get rfl)) fun _ F485 => ?_; clear F483
                  by_cases hc486 : ((climbF (publicD (shown (bitsL root ((idx : Int).toNat) msg) ⟨idx, op, cl, pa⟩)) idx n pa).2 : Int) = (0 : Int)
                  · skip
                    refine qg 3 (.agg (byteVals ((climbF (publicD (shown (bitsL root ((idx : Int).toNat) msg) ⟨idx, op, cl, pa⟩)) idx n pa).1)).toArray) F485 (decide_eq_true hc486) (rn_loadBlk (F485.get rfl) b474 Tryd.underlying37 rfl (inf37.trans (congrArg some (byteVals_len (climbF_len _ _ _ _)).symm))) fun _ F488 => ?_; clear F485
                    have b489 := ((((((b346.ext hx358).ext hx365).grownN hg372 (by omega)).ext hx382).ext hx468).grownN hg475 (by omega))
                    refine qg 4 (.agg (byteVals root).toArray) F488 (decide_eq_true hc486) (rn_loadBlk (F488.get rfl) b489 Tryd.underlying37 rfl (inf37.trans (congrArg some (byteVals_len hd).symm))) fun _ F491 => ?_; clear F488
                    refine qg 5 (.bool (decide ((climbF (publicD (shown (bitsL root ((idx : Int).toNat) msg) ⟨idx, op, cl, pa⟩)) idx n pa).1 = root))) F491 (decide_eq_true hc486) (rn_eqA Tryd.underlying37 Tryd.underlying5 inf5 (by kernel_rfl) (F491.get rfl) (F491.get rfl) (climbF_len _ _ _ _) hd) fun _ F493 => ?_; clear F491
                    refine qv 6 (.bool (decide ((climbF (publicD (shown (bitsL root ((idx : Int).toNat) msg) ⟨idx, op, cl, pa⟩)) idx n pa).1 = root))) F493 rfl (rn_pickT (c_true F493 rfl (decide_eq_true hc486)) (F493.get rfl)) fun _ F495 => ?_; clear F493
                    refine qv 7 (.bool (decide ((climbF (publicD (shown (bitsL root ((idx : Int).toNat) msg) ⟨idx, op, cl, pa⟩)) idx n pa).1 = root))) F495 rfl (rn_assign (F495.get rfl)) fun _ F497 => ?_; clear F495
                    refine wpList_nil ?_
                    refine hK479 _ _ ?_
                    clear hK479
                    have F498 := ((((((((((((F497.nil.c F497 12 rfl).c F497 46 rfl).c F497 11 rfl).c F497 10 rfl).c F497 9 rfl).c F497 8 rfl).c F497 7 rfl).c F497 4 rfl).c F497 3 rfl).c F497 2 rfl).c F497 1 rfl).c F497 0 rfl)
                    clear F497
                    refine wp_ret ?_
                    refine ret1 F498 rfl rfl ?_
                    have hv : vShape n msg ⟨idx, op, cl, pa⟩ := by unfold vShape; simp only; omega
                    have hcs : climbS root n msg ⟨idx, op, cl, pa⟩ = climbF (publicD (shown (bitsL root ((idx : Int).toNat) msg) ⟨idx, op, cl, pa⟩)) idx n pa := rfl
                    exact ⟨by rw [verify_yes hv, hcs, show decide (_ = (0 : Int)) = true from (decide_eq_true hc486), Bool.true_and], (((((((((Ext.refl w).trans hx5).trans hx13).trans hx358).trans hx365).grownN hg372 (by omega)).trans hx382).trans hx468).grownN hg475 (by omega))⟩
                  · skip
                    refine qu 3 F485 (decide_eq_false hc486) fun _ F500 => ?_; clear F485
                    refine qu 4 F500 (decide_eq_false hc486) fun _ F502 => ?_; clear F500
                    refine qu 5 F502 (decide_eq_false hc486) fun _ F504 => ?_; clear F502
                    refine qv 6 (.bool false) F504 rfl (rn_pickF (c_false F504 rfl (decide_eq_false hc486)) rfl) fun _ F506 => ?_; clear F504
                    refine qv 7 (.bool false) F506 rfl (rn_assign (F506.get rfl)) fun _ F508 => ?_; clear F506
                    refine wpList_nil ?_
                    refine hK479 _ _ ?_
                    clear hK479
                    have F509 := ((((((((((((F508.nil.c F508 12 rfl).c F508 46 rfl).c F508 11 rfl).c F508 10 rfl).c F508 9 rfl).c F508 8 rfl).c F508 7 rfl).c F508 4 rfl).c F508 3 rfl).c F508 2 rfl).c F508 1 rfl).c F508 0 rfl)
                    clear F508
                    refine wp_ret ?_
                    refine ret1 F509 rfl rfl ?_
                    have hv : vShape n msg ⟨idx, op, cl, pa⟩ := by unfold vShape; simp only; omega
                    have hcs : climbS root n msg ⟨idx, op, cl, pa⟩ = climbF (publicD (shown (bitsL root ((idx : Int).toNat) msg) ⟨idx, op, cl, pa⟩)) idx n pa := rfl
                    exact ⟨by rw [verify_yes hv, hcs, show decide (_ = (0 : Int)) = false from (decide_eq_false hc486)]; rfl, (((((((((Ext.refl w).trans hx5).trans hx13).trans hx358).trans hx365).grownN hg372 (by omega)).trans hx382).trans hx468).grownN hg475 (by omega))⟩
                refine any_have (n1 := 6) (L1 := #[true, true, true, true, true, true, true, false, false, false, false, true, false, false]) (fun a' W => ∃ (g413 : Nat), Sl 71 [(0, (.agg (byteVals root).toArray)), (1, (.int .i64 n)), (2, (.slice B msg.length cb)), (3, (.agg #[(.int .i64 idx), (.slice O op.length oc), (.slice C cl.length ec), (.slice P pa.length pc)])), (4, (.pointer (some ⟨g2, 0, none⟩))), (7, (.pointer (some ⟨g10, 0, none⟩))), (8, (.bool false)), (9, (.pointer (some ⟨g362, 0, none⟩))), (10, (.func (.func 42) #[] #[(.pointer (some ⟨g362, 0, none⟩)), (.pointer (some ⟨g10, 0, none⟩))])), (11, (.pointer (some ⟨g413, 0, none⟩))), (46, (.bool (decide ((65536 : Int) < ((msg.length : Nat) : Int))))), (55, (.agg (byteVals (publicD (shown (bitsL root ((idx : Int).toNat) msg) ⟨idx, op, cl, pa⟩))).toArray)), (57, (.int .i64 idx)), (58, (.int .i64 n)), (60, (.slice P pa.length pc))] a' ∧ Ext w381 W ∧ Blk W g413 37 (byteVals (List.replicate 32 0)) ∧ w381.heap.size ≤ g413) ?_ (fun st510 => ?_)
                · skip
                  rintro a511 w512 ⟨g413, F513, hx514, b515, z516⟩
                  clear F379
                  have z517 := hx514.size
                  have z518 := b515.lt
                  refine any_one (i := 7) (by decide +kernel) rfl ?_
                  have d519 := (hcp.pres ((((((((Pres.refl w).ext hx5).ext hx13).ext hx358).ext hx365).grownN hg372 (fun h => by simp only [Clip] at h; omega)).ext hx382).ext hx514))
                  refine o_call F513 rfl rfl rfl rfl (rn_call (args4 (F513.get rfl) (F513.get rfl) (F513.get rfl) (F513.get rfl)) rfl (by kernel_rfl)) (climb_at (publicD (shown (bitsL root ((idx : Int).toNat) msg) ⟨idx, op, cl, pa⟩)) idx n pa _ (v := (.slice P pa.length pc)) (m := pa.length) (publicD_len _) h32p d519 (hG.ext ((((((((Ext.refl w).trans hx5).trans hx13).trans hx358).trans hx365).grownN hg372 (by omega)).trans hx382).trans hx514))) ?_
                  rintro _ w520 ⟨rfl, hx521⟩
                  refine ⟨_, rfl, ?_⟩; intro a522 F523; clear F513; have z524 := hx521.size
                  have b525 := ((((((b12.ext hx358).ext hx365).grownN hg372 (by omega)).ext hx382).ext hx514).ext hx521)
                  refine ⟨fun _ _ => ⟨(((Ext.refl w381).trans hx514).trans hx521), b525⟩, ?_⟩
                  refine qp 8 (.tuple #[(.agg (byteVals ((climbF (publicD (shown (bitsL root ((idx : Int).toNat) msg) ⟨idx, op, cl, pa⟩)) idx n pa).1)).toArray), (.int .i64 ((climbF (publicD (shown (bitsL root ((idx : Int).toNat) msg) ⟨idx, op, cl, pa⟩)) idx n pa).2))]) F523 rfl rfl (fun W => (rn_move (F523.get rfl))) fun _ F527 => ?_; clear F523
                  refine qp 9 (.agg (byteVals ((climbF (publicD (shown (bitsL root ((idx : Int).toNat) msg) ⟨idx, op, cl, pa⟩)) idx n pa).1)).toArray) F527 rfl rfl (fun W => (rn_extract (F527.get rfl) rfl)) fun _ F529 => ?_; clear F527
                  refine qp 10 (.int .i64 ((climbF (publicD (shown (bitsL root ((idx : Int).toNat) msg) ⟨idx, op, cl, pa⟩)) idx n pa).2)) F529 rfl rfl (fun W => (rn_extract (F529.get rfl) rfl)) fun _ F531 => ?_; clear F529
                  have b532 := (b515.ext hx521)
                  exact st464 _ _ ⟨g413, (((((((((((((F531.nil.c F531 63 rfl).c F531 62 rfl).c F531 46 rfl).c F531 11 rfl).c F531 10 rfl).c F531 9 rfl).c F531 8 rfl).c F531 7 rfl).c F531 4 rfl).c F531 3 rfl).c F531 2 rfl).c F531 1 rfl).c F531 0 rfl), (((Ext.refl w381).trans hx514).trans hx521), b532, (by omega)⟩
                refine qp 0 (.func (.func 42) #[] #[(.pointer (some ⟨g362, 0, none⟩)), (.pointer (some ⟨g10, 0, none⟩))]) F379 rfl rfl (fun W => (rn_move (F379.get rfl))) fun _ F534 => ?_; clear F379
                refine qp 2 (.pointer (some ⟨g10, 0, none⟩)) F534 rfl rfl (fun W => (rn_field Tryd.underlying30 rfl (by kernel_rfl) (F534.get rfl) rfl)) fun _ F536 => ?_; clear F534
                have b538 := ((((b12.ext hx358).ext hx365).grownN hg372 (by omega)).ext hx382)
                have hS537 : Ext w381 w381 ∧ Blk w381 g10 30 [(.int .i64 idx), (.slice O op.length oc), (.slice C cl.length ec), (.slice P pa.length pc)] := ⟨(Ext.refl w381), b538⟩
                refine qs 3 (.int .i64 idx) F536 rfl rfl hS537 (fun W hW => (rn_load (isAgg_no Tryd.underlying3 rfl) (F536.get rfl) (hW.2.rule.1 0))) fun _ F540 => ?_; clear F536
                refine qp 4 (.int .i64 n) F540 rfl rfl (fun W => (rn_move (F540.get rfl))) fun _ F542 => ?_; clear F540
                refine qp 5 (.pointer (some ⟨g10, 3, none⟩)) F542 rfl rfl (fun W => (rn_field Tryd.underlying30 rfl (by kernel_rfl) (F542.get rfl) rfl)) fun _ F544 => ?_; clear F542
                refine qs 6 (.slice P pa.length pc) F544 rfl rfl hS537 (fun W hW => (rn_load (isAgg_no Tryd.underlying28 rfl) (F544.get rfl) (hW.2.rule.1 3))) fun _ F546 => ?_; clear F544
                refine any_two (i := 1) (k := 11) (by decide +kernel) rfl rfl ?_ ?_
                · skip
                  have b547 := (b371.ext hx382)
                  have hf548 := b547
                  have hf549 := b538
                  have d550 := (hco.pres (((((((Pres.refl w).ext hx5).ext hx13).ext hx358).ext hx365).grownN hg372 (fun h => by simp only [Clip] at h; omega)).ext hx382))
                  have hf551 := d550
                  have d552 := (hce.pres (((((((Pres.refl w).ext hx5).ext hx13).ext hx358).ext hx365).grownN hg372 (fun h => by simp only [Clip] at h; omega)).ext hx382))
                  have hf553 := d552
                  have hf554 := (hG.ext (((((((Ext.refl w).trans hx5).trans hx13).trans hx358).trans hx365).grownN hg372 (by omega)).trans hx382))
                  refine o_call F546 rfl rfl rfl rfl (rn_call (args1 (F546.get rfl)) rfl (by kernel_rfl)) (public_any 42 #[] #[(.pointer (some ⟨g362, 0, none⟩)), (.pointer (some ⟨g10, 0, none⟩))] (shown (bitsL root ((idx : Int).toNat) msg) ⟨idx, op, cl, pa⟩) _ (fun _ _ => by kernel_rfl) (fun u v => #[u, v, (.pointer (some ⟨g362, 0, none⟩)), (.pointer (some ⟨g10, 0, none⟩))]) (fun u v => by simp) (fun j b W hj hx => shown_any j b g362 g10 (bitsL root ((idx : Int).toNat) msg) idx O oc op C ec cl pa _ W (hf548.ext hx) (hf549.ext hx) (hf551.ext hx) (hf553.ext hx) h32o h32c (hf554.ext hx) (bitsL_len root ((idx : Int).toNat) msg) hj (by omega) (by omega)) (fun j b hj => shown_len h32o h32c (show j < op.length by omega) (show j < cl.length by omega)) hf554) ?_
                  rintro _ w555 ⟨rfl, hx556⟩
                  refine ⟨_, rfl, ?_⟩; intro a557 F558; clear F546; have z559 := hx556.size
                  have b560 := (b538.ext hx556)
                  refine ⟨fun _ _ => ⟨((Ext.refl w381).trans hx556), b560⟩, ?_⟩
                  refine any_two (i := 7) (k := 11) (by decide +kernel) rfl rfl ?_ ?_
                  · skip
                    have d561 := (hcp.pres ((((((((Pres.refl w).ext hx5).ext hx13).ext hx358).ext hx365).grownN hg372 (fun h => by simp only [Clip] at h; omega)).ext hx382).ext hx556))
                    refine o_call F558 rfl rfl rfl rfl (rn_call (args4 (F558.get rfl) (F558.get rfl) (F558.get rfl) (F558.get rfl)) rfl (by kernel_rfl)) (climb_at (publicD (shown (bitsL root ((idx : Int).toNat) msg) ⟨idx, op, cl, pa⟩)) idx n pa _ (v := (.slice P pa.length pc)) (m := pa.length) (publicD_len _) h32p d561 (hG.ext ((((((((Ext.refl w).trans hx5).trans hx13).trans hx358).trans hx365).grownN hg372 (by omega)).trans hx382).trans hx556))) ?_
                    rintro _ w562 ⟨rfl, hx563⟩
                    refine ⟨_, rfl, ?_⟩; intro a564 F565; clear F558; have z566 := hx563.size
                    have b567 := (b560.ext hx563)
                    refine ⟨fun _ _ => ⟨(((Ext.refl w381).trans hx556).trans hx563), b567⟩, ?_⟩
                    refine qp 8 (.tuple #[(.agg (byteVals ((climbF (publicD (shown (bitsL root ((idx : Int).toNat) msg) ⟨idx, op, cl, pa⟩)) idx n pa).1)).toArray), (.int .i64 ((climbF (publicD (shown (bitsL root ((idx : Int).toNat) msg) ⟨idx, op, cl, pa⟩)) idx n pa).2))]) F565 rfl rfl (fun W => (rn_move (F565.get rfl))) fun _ F569 => ?_; clear F565
                    refine qp 9 (.agg (byteVals ((climbF (publicD (shown (bitsL root ((idx : Int).toNat) msg) ⟨idx, op, cl, pa⟩)) idx n pa).1)).toArray) F569 rfl rfl (fun W => (rn_extract (F569.get rfl) rfl)) fun _ F571 => ?_; clear F569
                    refine qp 10 (.int .i64 ((climbF (publicD (shown (bitsL root ((idx : Int).toNat) msg) ⟨idx, op, cl, pa⟩)) idx n pa).2)) F571 rfl rfl (fun W => (rn_extract (F571.get rfl) rfl)) fun _ F573 => ?_; clear F571
                    refine any_one (i := 11) (by decide +kernel) rfl ?_
                    refine o_new (fun g => (.pointer (some ⟨g, 0, none⟩))) (byteVals (List.replicate 32 0)) 37 F573 rfl rfl rfl rfl (by kernel_rfl) ?_
                    intro g574 w575 a580 F581 z578 z579 b576 hx577; clear F573
                    have b582 := (b567.ext hx577)
                    refine ⟨fun _ _ => ⟨((((Ext.refl w381).trans hx556).trans hx563).trans hx577), b582⟩, ?_⟩
                    exact st464 _ _ ⟨g574, (((((((((((((F581.nil.c F581 63 rfl).c F581 62 rfl).c F581 46 rfl).c F581 11 rfl).c F581 10 rfl).c F581 9 rfl).c F581 8 rfl).c F581 7 rfl).c F581 4 rfl).c F581 3 rfl).c F581 2 rfl).c F581 1 rfl).c F581 0 rfl), ((((Ext.refl w381).trans hx556).trans hx563).trans hx577), b576, (by omega)⟩
                  · skip
                    refine o_new (fun g => (.pointer (some ⟨g, 0, none⟩))) (byteVals (List.replicate 32 0)) 37 F558 rfl rfl rfl rfl (by kernel_rfl) ?_
                    intro g583 w584 a589 F590 z587 z588 b585 hx586; clear F558
                    have b591 := (b560.ext hx586)
                    refine ⟨fun _ _ => ⟨(((Ext.refl w381).trans hx556).trans hx586), b591⟩, ?_⟩
                    exact st510 _ _ ⟨g583, (((((((((((((((F590.nil.c F590 60 rfl).c F590 58 rfl).c F590 57 rfl).c F590 55 rfl).c F590 46 rfl).c F590 11 rfl).c F590 10 rfl).c F590 9 rfl).c F590 8 rfl).c F590 7 rfl).c F590 4 rfl).c F590 3 rfl).c F590 2 rfl).c F590 1 rfl).c F590 0 rfl), (((Ext.refl w381).trans hx556).trans hx586), b585, (by omega)⟩
                · skip
                  refine o_new (fun g => (.pointer (some ⟨g, 0, none⟩))) (byteVals (List.replicate 32 0)) 37 F546 rfl rfl rfl rfl (by kernel_rfl) ?_
                  intro g592 w593 a598 F599 z596 z597 b594 hx595; clear F546
                  have b600 := (b538.ext hx595)
                  refine ⟨fun _ _ => ⟨((Ext.refl w381).trans hx595), b600⟩, ?_⟩
                  refine any_one (i := 1) (by decide +kernel) rfl ?_
                  have b601 := ((b371.ext hx382).ext hx595)
                  have hf602 := b601
                  have hf603 := b600
                  have d604 := (hco.pres ((((((((Pres.refl w).ext hx5).ext hx13).ext hx358).ext hx365).grownN hg372 (fun h => by simp only [Clip] at h; omega)).ext hx382).ext hx595))
                  have hf605 := d604
                  have d606 := (hce.pres ((((((((Pres.refl w).ext hx5).ext hx13).ext hx358).ext hx365).grownN hg372 (fun h => by simp only [Clip] at h; omega)).ext hx382).ext hx595))
                  have hf607 := d606
                  have hf608 := (hG.ext ((((((((Ext.refl w).trans hx5).trans hx13).trans hx358).trans hx365).grownN hg372 (by omega)).trans hx382).trans hx595))
                  refine o_call F599 rfl rfl rfl rfl (rn_call (args1 (F599.get rfl)) rfl (by kernel_rfl)) (public_any 42 #[] #[(.pointer (some ⟨g362, 0, none⟩)), (.pointer (some ⟨g10, 0, none⟩))] (shown (bitsL root ((idx : Int).toNat) msg) ⟨idx, op, cl, pa⟩) _ (fun _ _ => by kernel_rfl) (fun u v => #[u, v, (.pointer (some ⟨g362, 0, none⟩)), (.pointer (some ⟨g10, 0, none⟩))]) (fun u v => by simp) (fun j b W hj hx => shown_any j b g362 g10 (bitsL root ((idx : Int).toNat) msg) idx O oc op C ec cl pa _ W (hf602.ext hx) (hf603.ext hx) (hf605.ext hx) (hf607.ext hx) h32o h32c (hf608.ext hx) (bitsL_len root ((idx : Int).toNat) msg) hj (by omega) (by omega)) (fun j b hj => shown_len h32o h32c (show j < op.length by omega) (show j < cl.length by omega)) hf608) ?_
                  rintro _ w609 ⟨rfl, hx610⟩
                  refine ⟨_, rfl, ?_⟩; intro a611 F612; clear F599; have z613 := hx610.size
                  have b614 := (b600.ext hx610)
                  refine ⟨fun _ _ => ⟨(((Ext.refl w381).trans hx595).trans hx610), b614⟩, ?_⟩
                  have b615 := (b594.ext hx610)
                  exact st510 _ _ ⟨g592, (((((((((((((((F612.nil.c F612 60 rfl).c F612 58 rfl).c F612 57 rfl).c F612 55 rfl).c F612 46 rfl).c F612 11 rfl).c F612 10 rfl).c F612 9 rfl).c F612 8 rfl).c F612 7 rfl).c F612 4 rfl).c F612 3 rfl).c F612 2 rfl).c F612 1 rfl).c F612 0 rfl), (((Ext.refl w381).trans hx595).trans hx610), b615, (by omega)⟩

set_option maxRecDepth 100000 in
set_option maxHeartbeats 1000000 in
theorem rverify_any (root : List UInt8) (n : Int) (B : Option Addr) (cb : Nat) (msg : List UInt8) (idx : Int) (O : Option Addr) (oc : Nat) (op : List (List UInt8)) (C : Option Addr) (ec : Nat) (cl : List (List UInt8)) (P : Option Addr) (pc : Nat) (pa : List (List UInt8)) (w : World) (hd : root.length = 32) (hm : Fl S w 1 (.slice B msg.length cb) msg.length (byteVals msg)) (ho : Fl S w 32 (.slice O op.length oc) op.length (digVals op)) (he : Fl S w 32 (.slice C cl.length ec) cl.length (digVals cl)) (hp : Fl S w 32 (.slice P pa.length pc) pa.length (digVals pa)) (h32o : All32 op) (h32c : All32 cl) (h32p : All32 pa) :
    Calls Tryd.prog 19 #[.agg (byteVals root).toArray, .int .i64 n, .slice B msg.length cb, .agg #[.int .i64 idx, .slice O op.length oc, .slice C cl.length ec, .slice P pa.length pc]] w (fun e w' => e = .returned (.bool (verifyF root n msg ⟨idx, op, cl, pa⟩)) ∧ Ext w w') := by
  have hb : Fl (Clip S w) w 1 (.slice B msg.length cb) msg.length (byteVals msg) := hm.clip
  have hbc := (Fl.cel hb).2.1
  have hco : Fl (Clip S w) w 32 (.slice O op.length oc) op.length (digVals op) := ho.clip
  have hcoc := (Fl.cel hco).2.1
  have hce : Fl (Clip S w) w 32 (.slice C cl.length ec) cl.length (digVals cl) := he.clip
  have hcec := (Fl.cel hce).2.1
  have hcp : Fl (Clip S w) w 32 (.slice P pa.length pc) pa.length (digVals pa) := hp.clip
  have hcpc := (Fl.cel hcp).2.1
  refine calls_enter (l := [(.agg (byteVals root).toArray), (.int .i64 n), (.slice B msg.length cb), (.agg #[(.int .i64 idx), (.slice O op.length oc), (.slice C cl.length ec), (.slice P pa.length pc)])]) Tryd.func19 rfl rfl rfl (fun aA hF => ?_)
  refine wp_seq_k (fun K1 hK1 => ?_)
  refine wp_region_lit ?_
  refine wpl_op (i := 0) rfl (o_new (fun g => (.pointer (some ⟨g, 0, none⟩))) (byteVals root) 37 hF rfl rfl rfl rfl (rn_box (hF.get rfl) (box_arr _)) ?_)
  intro g2 w3 a8 F9 z6 z7 b4 hx5; clear hF
  refine wpl_op (i := 1) rfl (o_new (fun g => (.pointer (some ⟨g, 0, none⟩))) [(.int .i64 idx), (.slice O op.length oc), (.slice C cl.length ec), (.slice P pa.length pc)] 30 F9 rfl rfl rfl rfl (rn_box (F9.get rfl) (by kernel_rfl)) ?_)
  intro g10 w11 a16 F17 z14 z15 b12 hx13; clear F9
  refine qv 2 (.bool false) F17 rfl (rn_assign rfl) fun _ F19 => ?_; clear F17
  refine wpList_nil ?_
  refine hK1 _ _ ?_
  clear hK1
  refine wp_seq_k (fun K20 hK20 => ?_)
  refine wp_seq_k (fun K21 hK21 => ?_)
  refine wp_region_lit ?_
  refine qv 0 (.int .i64 n) F19 rfl (rn_move (F19.get rfl)) fun _ F23 => ?_; clear F19
  refine qv 1 (.bool (decide ((n : Int) < (1 : Int)))) F23 rfl (rn_lss (F23.get rfl) rfl) fun _ F25 => ?_; clear F23
  refine qv 2 (.bool (decide ((n : Int) < (1 : Int)))) F25 rfl (rn_move (F25.get rfl)) fun _ F27 => ?_; clear F25
  by_cases hc28 : (n : Int) < (1 : Int)
  · skip
    refine qu 3 F27 (decide_eq_true hc28) fun _ F30 => ?_; clear F27
    refine qu 4 F30 (decide_eq_true hc28) fun _ F32 => ?_; clear F30
    refine qv 5 (.bool true) F32 rfl (rn_pickT (c_true F32 rfl (decide_eq_true hc28)) rfl) fun _ F34 => ?_; clear F32
    refine qv 6 (.bool true) F34 rfl (rn_move (F34.get rfl)) fun _ F36 => ?_; clear F34
    refine qu 7 F36 rfl fun _ F38 => ?_; clear F36
    refine qu 8 F38 rfl fun _ F40 => ?_; clear F38
    refine qu 9 F40 rfl fun _ F42 => ?_; clear F40
    refine qv 10 (.bool true) F42 rfl (rn_pickT (c_true F42 rfl rfl) rfl) fun _ F44 => ?_; clear F42
    refine qv 11 (.bool true) F44 rfl (rn_move (F44.get rfl)) fun _ F46 => ?_; clear F44
    refine qu 12 F46 rfl fun _ F48 => ?_; clear F46
    refine qu 13 F48 rfl fun _ F50 => ?_; clear F48
    refine qu 14 F50 rfl fun _ F52 => ?_; clear F50
    refine qu 15 F52 rfl fun _ F54 => ?_; clear F52
    refine qv 16 (.bool true) F54 rfl (rn_pickT (c_true F54 rfl rfl) rfl) fun _ F56 => ?_; clear F54
    refine qv 17 (.bool true) F56 rfl (rn_move (F56.get rfl)) fun _ F58 => ?_; clear F56
    refine qu 18 F58 rfl fun _ F60 => ?_; clear F58
    refine qu 19 F60 rfl fun _ F62 => ?_; clear F60
    refine qu 20 F62 rfl fun _ F64 => ?_; clear F62
    refine qu 21 F64 rfl fun _ F66 => ?_; clear F64
    refine qv 22 (.bool true) F66 rfl (rn_pickT (c_true F66 rfl rfl) rfl) fun _ F68 => ?_; clear F66
    refine qv 23 (.bool true) F68 rfl (rn_move (F68.get rfl)) fun _ F70 => ?_; clear F68
    refine qu 24 F70 rfl fun _ F72 => ?_; clear F70
    refine qu 25 F72 rfl fun _ F74 => ?_; clear F72
    refine qu 26 F74 rfl fun _ F76 => ?_; clear F74
    refine qu 27 F76 rfl fun _ F78 => ?_; clear F76
    refine qv 28 (.bool true) F78 rfl (rn_pickT (c_true F78 rfl rfl) rfl) fun _ F80 => ?_; clear F78
    refine qv 29 (.bool true) F80 rfl (rn_move (F80.get rfl)) fun _ F82 => ?_; clear F80
    refine qu 30 F82 rfl fun _ F84 => ?_; clear F82
    refine qu 31 F84 rfl fun _ F86 => ?_; clear F84
    refine qu 32 F86 rfl fun _ F88 => ?_; clear F86
    refine qv 33 (.bool true) F88 rfl (rn_pickT (c_true F88 rfl rfl) rfl) fun _ F90 => ?_; clear F88
    refine wpList_nil ?_
    refine hK21 _ _ ?_
    clear hK21
    have F91 := ((((((((F90.nil.c F90 47 rfl).c F90 8 rfl).c F90 7 rfl).c F90 4 rfl).c F90 3 rfl).c F90 2 rfl).c F90 1 rfl).c F90 0 rfl)
    clear F90
    refine wp_cond_true (c_true F91 rfl rfl) ?_
    refine wp_seq_k (fun K92 hK92 => ?_)
    refine wp_region_lit ?_
    refine qv 0 (.bool false) F91 rfl (rn_assign rfl) fun _ F94 => ?_; clear F91
    refine wpList_nil ?_
    refine hK92 _ _ ?_
    clear hK92
    refine wp_ret ?_
    refine ret_then ?_
    refine ret1 F94 rfl rfl ?_
    exact ⟨by rw [verify_not (s := ⟨idx, op, cl, pa⟩) (by unfold vShape; simp only; omega)], (((Ext.refl w).trans hx5).trans hx13)⟩
  · skip
    refine qg 3 (.int .i64 n) F27 (decide_eq_false hc28) (rn_move (F27.get rfl)) fun _ F96 => ?_; clear F27
    refine qg 4 (.bool (decide ((4096 : Int) < (n : Int)))) F96 (decide_eq_false hc28) (rn_gtr (F96.get rfl) rfl) fun _ F98 => ?_; clear F96
    refine qv 5 (.bool (decide ((4096 : Int) < (n : Int)))) F98 rfl (rn_pickF (c_false F98 rfl (decide_eq_false hc28)) (F98.get rfl)) fun _ F100 => ?_; clear F98
    refine qv 6 (.bool (decide ((4096 : Int) < (n : Int)))) F100 rfl (rn_move (F100.get rfl)) fun _ F102 => ?_; clear F100
    by_cases hc103 : (4096 : Int) < (n : Int)
    · skip
      refine qu 7 F102 (decide_eq_true hc103) fun _ F105 => ?_; clear F102
      refine qu 8 F105 (decide_eq_true hc103) fun _ F107 => ?_; clear F105
      refine qu 9 F107 (decide_eq_true hc103) fun _ F109 => ?_; clear F107
      refine qv 10 (.bool true) F109 rfl (rn_pickT (c_true F109 rfl (decide_eq_true hc103)) rfl) fun _ F111 => ?_; clear F109
      refine qv 11 (.bool true) F111 rfl (rn_move (F111.get rfl)) fun _ F113 => ?_; clear F111
      refine qu 12 F113 rfl fun _ F115 => ?_; clear F113
      refine qu 13 F115 rfl fun _ F117 => ?_; clear F115
      refine qu 14 F117 rfl fun _ F119 => ?_; clear F117
      refine qu 15 F119 rfl fun _ F121 => ?_; clear F119
      refine qv 16 (.bool true) F121 rfl (rn_pickT (c_true F121 rfl rfl) rfl) fun _ F123 => ?_; clear F121
      refine qv 17 (.bool true) F123 rfl (rn_move (F123.get rfl)) fun _ F125 => ?_; clear F123
      refine qu 18 F125 rfl fun _ F127 => ?_; clear F125
      refine qu 19 F127 rfl fun _ F129 => ?_; clear F127
      refine qu 20 F129 rfl fun _ F131 => ?_; clear F129
      refine qu 21 F131 rfl fun _ F133 => ?_; clear F131
      refine qv 22 (.bool true) F133 rfl (rn_pickT (c_true F133 rfl rfl) rfl) fun _ F135 => ?_; clear F133
      refine qv 23 (.bool true) F135 rfl (rn_move (F135.get rfl)) fun _ F137 => ?_; clear F135
      refine qu 24 F137 rfl fun _ F139 => ?_; clear F137
      refine qu 25 F139 rfl fun _ F141 => ?_; clear F139
      refine qu 26 F141 rfl fun _ F143 => ?_; clear F141
      refine qu 27 F143 rfl fun _ F145 => ?_; clear F143
      refine qv 28 (.bool true) F145 rfl (rn_pickT (c_true F145 rfl rfl) rfl) fun _ F147 => ?_; clear F145
      refine qv 29 (.bool true) F147 rfl (rn_move (F147.get rfl)) fun _ F149 => ?_; clear F147
      refine qu 30 F149 rfl fun _ F151 => ?_; clear F149
      refine qu 31 F151 rfl fun _ F153 => ?_; clear F151
      refine qu 32 F153 rfl fun _ F155 => ?_; clear F153
      refine qv 33 (.bool true) F155 rfl (rn_pickT (c_true F155 rfl rfl) rfl) fun _ F157 => ?_; clear F155
      refine wpList_nil ?_
      refine hK21 _ _ ?_
      clear hK21
      have F158 := ((((((((F157.nil.c F157 47 rfl).c F157 8 rfl).c F157 7 rfl).c F157 4 rfl).c F157 3 rfl).c F157 2 rfl).c F157 1 rfl).c F157 0 rfl)
      clear F157
      refine wp_cond_true (c_true F158 rfl rfl) ?_
      refine wp_seq_k (fun K159 hK159 => ?_)
      refine wp_region_lit ?_
      refine qv 0 (.bool false) F158 rfl (rn_assign rfl) fun _ F161 => ?_; clear F158
      refine wpList_nil ?_
      refine hK159 _ _ ?_
      clear hK159
      refine wp_ret ?_
      refine ret_then ?_
      refine ret1 F161 rfl rfl ?_
      exact ⟨by rw [verify_not (s := ⟨idx, op, cl, pa⟩) (by unfold vShape; simp only; omega)], (((Ext.refl w).trans hx5).trans hx13)⟩
    · skip
      refine qg 7 (.pointer (some ⟨g10, 0, none⟩)) F102 (decide_eq_false hc103) (rn_field Tryd.underlying30 rfl (by kernel_rfl) (F102.get rfl) rfl) fun _ F163 => ?_; clear F102
      refine qg 8 (.int .i64 idx) F163 (decide_eq_false hc103) (rn_load (isAgg_no Tryd.underlying3 rfl) (F163.get rfl) (b12.rule.1 0)) fun _ F165 => ?_; clear F163
      refine qg 9 (.bool (decide ((idx : Int) < (0 : Int)))) F165 (decide_eq_false hc103) (rn_lss (F165.get rfl) rfl) fun _ F167 => ?_; clear F165
      refine qv 10 (.bool (decide ((idx : Int) < (0 : Int)))) F167 rfl (rn_pickF (c_false F167 rfl (decide_eq_false hc103)) (F167.get rfl)) fun _ F169 => ?_; clear F167
      refine qv 11 (.bool (decide ((idx : Int) < (0 : Int)))) F169 rfl (rn_move (F169.get rfl)) fun _ F171 => ?_; clear F169
      by_cases hc172 : (idx : Int) < (0 : Int)
      · skip
        refine qu 12 F171 (decide_eq_true hc172) fun _ F174 => ?_; clear F171
        refine qu 13 F174 (decide_eq_true hc172) fun _ F176 => ?_; clear F174
        refine qu 14 F176 (decide_eq_true hc172) fun _ F178 => ?_; clear F176
        refine qu 15 F178 (decide_eq_true hc172) fun _ F180 => ?_; clear F178
        refine qv 16 (.bool true) F180 rfl (rn_pickT (c_true F180 rfl (decide_eq_true hc172)) rfl) fun _ F182 => ?_; clear F180
        refine qv 17 (.bool true) F182 rfl (rn_move (F182.get rfl)) fun _ F184 => ?_; clear F182
        refine qu 18 F184 rfl fun _ F186 => ?_; clear F184
        refine qu 19 F186 rfl fun _ F188 => ?_; clear F186
        refine qu 20 F188 rfl fun _ F190 => ?_; clear F188
        refine qu 21 F190 rfl fun _ F192 => ?_; clear F190
        refine qv 22 (.bool true) F192 rfl (rn_pickT (c_true F192 rfl rfl) rfl) fun _ F194 => ?_; clear F192
        refine qv 23 (.bool true) F194 rfl (rn_move (F194.get rfl)) fun _ F196 => ?_; clear F194
        refine qu 24 F196 rfl fun _ F198 => ?_; clear F196
        refine qu 25 F198 rfl fun _ F200 => ?_; clear F198
        refine qu 26 F200 rfl fun _ F202 => ?_; clear F200
        refine qu 27 F202 rfl fun _ F204 => ?_; clear F202
        refine qv 28 (.bool true) F204 rfl (rn_pickT (c_true F204 rfl rfl) rfl) fun _ F206 => ?_; clear F204
        refine qv 29 (.bool true) F206 rfl (rn_move (F206.get rfl)) fun _ F208 => ?_; clear F206
        refine qu 30 F208 rfl fun _ F210 => ?_; clear F208
        refine qu 31 F210 rfl fun _ F212 => ?_; clear F210
        refine qu 32 F212 rfl fun _ F214 => ?_; clear F212
        refine qv 33 (.bool true) F214 rfl (rn_pickT (c_true F214 rfl rfl) rfl) fun _ F216 => ?_; clear F214
        refine wpList_nil ?_
        refine hK21 _ _ ?_
        clear hK21
        have F217 := ((((((((F216.nil.c F216 47 rfl).c F216 8 rfl).c F216 7 rfl).c F216 4 rfl).c F216 3 rfl).c F216 2 rfl).c F216 1 rfl).c F216 0 rfl)
        clear F216
        refine wp_cond_true (c_true F217 rfl rfl) ?_
        refine wp_seq_k (fun K218 hK218 => ?_)
        refine wp_region_lit ?_
        refine qv 0 (.bool false) F217 rfl (rn_assign rfl) fun _ F220 => ?_; clear F217
        refine wpList_nil ?_
        refine hK218 _ _ ?_
        clear hK218
        refine wp_ret ?_
        refine ret_then ?_
        refine ret1 F220 rfl rfl ?_
        exact ⟨by rw [verify_not (s := ⟨idx, op, cl, pa⟩) (by unfold vShape; simp only; omega)], (((Ext.refl w).trans hx5).trans hx13)⟩
      · skip
        refine qg 12 (.pointer (some ⟨g10, 0, none⟩)) F171 (decide_eq_false hc172) (rn_field Tryd.underlying30 rfl (by kernel_rfl) (F171.get rfl) rfl) fun _ F222 => ?_; clear F171
        refine qg 13 (.int .i64 idx) F222 (decide_eq_false hc172) (rn_load (isAgg_no Tryd.underlying3 rfl) (F222.get rfl) (b12.rule.1 0)) fun _ F224 => ?_; clear F222
        refine qg 14 (.int .i64 n) F224 (decide_eq_false hc172) (rn_move (F224.get rfl)) fun _ F226 => ?_; clear F224
        refine qg 15 (.bool (decide ((n : Int) ≤ (idx : Int)))) F226 (decide_eq_false hc172) (rn_geq (F226.get rfl) (F226.get rfl)) fun _ F228 => ?_; clear F226
        refine qv 16 (.bool (decide ((n : Int) ≤ (idx : Int)))) F228 rfl (rn_pickF (c_false F228 rfl (decide_eq_false hc172)) (F228.get rfl)) fun _ F230 => ?_; clear F228
        refine qv 17 (.bool (decide ((n : Int) ≤ (idx : Int)))) F230 rfl (rn_move (F230.get rfl)) fun _ F232 => ?_; clear F230
        by_cases hc233 : (n : Int) ≤ (idx : Int)
        · skip
          refine qu 18 F232 (decide_eq_true hc233) fun _ F235 => ?_; clear F232
          refine qu 19 F235 (decide_eq_true hc233) fun _ F237 => ?_; clear F235
          refine qu 20 F237 (decide_eq_true hc233) fun _ F239 => ?_; clear F237
          refine qu 21 F239 (decide_eq_true hc233) fun _ F241 => ?_; clear F239
          refine qv 22 (.bool true) F241 rfl (rn_pickT (c_true F241 rfl (decide_eq_true hc233)) rfl) fun _ F243 => ?_; clear F241
          refine qv 23 (.bool true) F243 rfl (rn_move (F243.get rfl)) fun _ F245 => ?_; clear F243
          refine qu 24 F245 rfl fun _ F247 => ?_; clear F245
          refine qu 25 F247 rfl fun _ F249 => ?_; clear F247
          refine qu 26 F249 rfl fun _ F251 => ?_; clear F249
          refine qu 27 F251 rfl fun _ F253 => ?_; clear F251
          refine qv 28 (.bool true) F253 rfl (rn_pickT (c_true F253 rfl rfl) rfl) fun _ F255 => ?_; clear F253
          refine qv 29 (.bool true) F255 rfl (rn_move (F255.get rfl)) fun _ F257 => ?_; clear F255
          refine qu 30 F257 rfl fun _ F259 => ?_; clear F257
          refine qu 31 F259 rfl fun _ F261 => ?_; clear F259
          refine qu 32 F261 rfl fun _ F263 => ?_; clear F261
          refine qv 33 (.bool true) F263 rfl (rn_pickT (c_true F263 rfl rfl) rfl) fun _ F265 => ?_; clear F263
          refine wpList_nil ?_
          refine hK21 _ _ ?_
          clear hK21
          have F266 := ((((((((F265.nil.c F265 47 rfl).c F265 8 rfl).c F265 7 rfl).c F265 4 rfl).c F265 3 rfl).c F265 2 rfl).c F265 1 rfl).c F265 0 rfl)
          clear F265
          refine wp_cond_true (c_true F266 rfl rfl) ?_
          refine wp_seq_k (fun K267 hK267 => ?_)
          refine wp_region_lit ?_
          refine qv 0 (.bool false) F266 rfl (rn_assign rfl) fun _ F269 => ?_; clear F266
          refine wpList_nil ?_
          refine hK267 _ _ ?_
          clear hK267
          refine wp_ret ?_
          refine ret_then ?_
          refine ret1 F269 rfl rfl ?_
          exact ⟨by rw [verify_not (s := ⟨idx, op, cl, pa⟩) (by unfold vShape; simp only; omega)], (((Ext.refl w).trans hx5).trans hx13)⟩
        · skip
          refine qg 18 (.pointer (some ⟨g10, 1, none⟩)) F232 (decide_eq_false hc233) (rn_field Tryd.underlying30 rfl (by kernel_rfl) (F232.get rfl) rfl) fun _ F271 => ?_; clear F232
          refine qg 19 (.slice O op.length oc) F271 (decide_eq_false hc233) (rn_load (isAgg_no Tryd.underlying28 rfl) (F271.get rfl) (b12.rule.1 1)) fun _ F273 => ?_; clear F271
          refine qg 20 (.int .i64 (op.length : Nat)) F273 (decide_eq_false hc233) (rn_len_slice Tryd.underlying28 (F273.get rfl)) fun _ F275 => ?_; clear F273
          refine qg 21 (.bool (decide (((op.length : Nat) : Int) ≠ (64 : Int)))) F275 (decide_eq_false hc233) (rn_neq (F275.get rfl) rfl) fun _ F277 => ?_; clear F275
          refine qv 22 (.bool (decide (((op.length : Nat) : Int) ≠ (64 : Int)))) F277 rfl (rn_pickF (c_false F277 rfl (decide_eq_false hc233)) (F277.get rfl)) fun _ F279 => ?_; clear F277
          refine qv 23 (.bool (decide (((op.length : Nat) : Int) ≠ (64 : Int)))) F279 rfl (rn_move (F279.get rfl)) fun _ F281 => ?_; clear F279
          by_cases hc282 : ((op.length : Nat) : Int) ≠ (64 : Int)
          · skip
            refine qu 24 F281 (decide_eq_true hc282) fun _ F284 => ?_; clear F281
            refine qu 25 F284 (decide_eq_true hc282) fun _ F286 => ?_; clear F284
            refine qu 26 F286 (decide_eq_true hc282) fun _ F288 => ?_; clear F286
            refine qu 27 F288 (decide_eq_true hc282) fun _ F290 => ?_; clear F288
            refine qv 28 (.bool true) F290 rfl (rn_pickT (c_true F290 rfl (decide_eq_true hc282)) rfl) fun _ F292 => ?_; clear F290
            refine qv 29 (.bool true) F292 rfl (rn_move (F292.get rfl)) fun _ F294 => ?_; clear F292
            refine qu 30 F294 rfl fun _ F296 => ?_; clear F294
            refine qu 31 F296 rfl fun _ F298 => ?_; clear F296
            refine qu 32 F298 rfl fun _ F300 => ?_; clear F298
            refine qv 33 (.bool true) F300 rfl (rn_pickT (c_true F300 rfl rfl) rfl) fun _ F302 => ?_; clear F300
            refine wpList_nil ?_
            refine hK21 _ _ ?_
            clear hK21
            have F303 := ((((((((F302.nil.c F302 47 rfl).c F302 8 rfl).c F302 7 rfl).c F302 4 rfl).c F302 3 rfl).c F302 2 rfl).c F302 1 rfl).c F302 0 rfl)
            clear F302
            refine wp_cond_true (c_true F303 rfl rfl) ?_
            refine wp_seq_k (fun K304 hK304 => ?_)
            refine wp_region_lit ?_
            refine qv 0 (.bool false) F303 rfl (rn_assign rfl) fun _ F306 => ?_; clear F303
            refine wpList_nil ?_
            refine hK304 _ _ ?_
            clear hK304
            refine wp_ret ?_
            refine ret_then ?_
            refine ret1 F306 rfl rfl ?_
            exact ⟨by rw [verify_not (s := ⟨idx, op, cl, pa⟩) (by unfold vShape; simp only; omega)], (((Ext.refl w).trans hx5).trans hx13)⟩
          · skip
            refine qg 24 (.pointer (some ⟨g10, 2, none⟩)) F281 (decide_eq_false hc282) (rn_field Tryd.underlying30 rfl (by kernel_rfl) (F281.get rfl) rfl) fun _ F308 => ?_; clear F281
            refine qg 25 (.slice C cl.length ec) F308 (decide_eq_false hc282) (rn_load (isAgg_no Tryd.underlying28 rfl) (F308.get rfl) (b12.rule.1 2)) fun _ F310 => ?_; clear F308
            refine qg 26 (.int .i64 (cl.length : Nat)) F310 (decide_eq_false hc282) (rn_len_slice Tryd.underlying28 (F310.get rfl)) fun _ F312 => ?_; clear F310
            refine qg 27 (.bool (decide (((cl.length : Nat) : Int) ≠ (64 : Int)))) F312 (decide_eq_false hc282) (rn_neq (F312.get rfl) rfl) fun _ F314 => ?_; clear F312
            refine qv 28 (.bool (decide (((cl.length : Nat) : Int) ≠ (64 : Int)))) F314 rfl (rn_pickF (c_false F314 rfl (decide_eq_false hc282)) (F314.get rfl)) fun _ F316 => ?_; clear F314
            refine qv 29 (.bool (decide (((cl.length : Nat) : Int) ≠ (64 : Int)))) F316 rfl (rn_move (F316.get rfl)) fun _ F318 => ?_; clear F316
            by_cases hc319 : ((cl.length : Nat) : Int) ≠ (64 : Int)
            · skip
              refine qu 30 F318 (decide_eq_true hc319) fun _ F321 => ?_; clear F318
              refine qu 31 F321 (decide_eq_true hc319) fun _ F323 => ?_; clear F321
              refine qu 32 F323 (decide_eq_true hc319) fun _ F325 => ?_; clear F323
              refine qv 33 (.bool true) F325 rfl (rn_pickT (c_true F325 rfl (decide_eq_true hc319)) rfl) fun _ F327 => ?_; clear F325
              refine wpList_nil ?_
              refine hK21 _ _ ?_
              clear hK21
              have F328 := ((((((((F327.nil.c F327 47 rfl).c F327 8 rfl).c F327 7 rfl).c F327 4 rfl).c F327 3 rfl).c F327 2 rfl).c F327 1 rfl).c F327 0 rfl)
              clear F327
              refine wp_cond_true (c_true F328 rfl rfl) ?_
              refine wp_seq_k (fun K329 hK329 => ?_)
              refine wp_region_lit ?_
              refine qv 0 (.bool false) F328 rfl (rn_assign rfl) fun _ F331 => ?_; clear F328
              refine wpList_nil ?_
              refine hK329 _ _ ?_
              clear hK329
              refine wp_ret ?_
              refine ret_then ?_
              refine ret1 F331 rfl rfl ?_
              exact ⟨by rw [verify_not (s := ⟨idx, op, cl, pa⟩) (by unfold vShape; simp only; omega)], (((Ext.refl w).trans hx5).trans hx13)⟩
            · skip
              refine qg 30 (.slice B msg.length cb) F318 (decide_eq_false hc319) (rn_move (F318.get rfl)) fun _ F333 => ?_; clear F318
              refine qg 31 (.int .i64 (msg.length : Nat)) F333 (decide_eq_false hc319) (rn_len_slice Tryd.underlying22 (F333.get rfl)) fun _ F335 => ?_; clear F333
              refine qg 32 (.bool (decide ((65536 : Int) < ((msg.length : Nat) : Int)))) F335 (decide_eq_false hc319) (rn_gtr (F335.get rfl) rfl) fun _ F337 => ?_; clear F335
              refine qv 33 (.bool (decide ((65536 : Int) < ((msg.length : Nat) : Int)))) F337 rfl (rn_pickF (c_false F337 rfl (decide_eq_false hc319)) (F337.get rfl)) fun _ F339 => ?_; clear F337
              refine wpList_nil ?_
              refine hK21 _ _ ?_
              clear hK21
              have F340 := ((((((((F339.nil.c F339 47 rfl).c F339 8 rfl).c F339 7 rfl).c F339 4 rfl).c F339 3 rfl).c F339 2 rfl).c F339 1 rfl).c F339 0 rfl)
              clear F339
              by_cases hc341 : (65536 : Int) < ((msg.length : Nat) : Int)
              · skip
                refine wp_cond_true (c_true F340 rfl (decide_eq_true hc341)) ?_
                refine wp_seq_k (fun K342 hK342 => ?_)
                refine wp_region_lit ?_
                refine qv 0 (.bool false) F340 rfl (rn_assign rfl) fun _ F344 => ?_; clear F340
                refine wpList_nil ?_
                refine hK342 _ _ ?_
                clear hK342
                refine wp_ret ?_
                refine ret_then ?_
                refine ret1 F344 rfl rfl ?_
                exact ⟨by rw [verify_not (s := ⟨idx, op, cl, pa⟩) (by unfold vShape; simp only; omega)], (((Ext.refl w).trans hx5).trans hx13)⟩
              · skip
                refine wp_cond_false (c_false F340 rfl (decide_eq_false hc341)) ?_
                refine wp_skip ?_
                refine hK20 _ _ ?_
                clear hK20
                refine wp_seq_k (fun K345 hK345 => ?_)
                refine wp_region_lit ?_
                have b346 := (b4.ext hx13)
                refine qv 0 (.agg (byteVals root).toArray) F340 rfl (rn_loadBlk (F340.get rfl) b346 Tryd.underlying37 rfl (inf37.trans (congrArg some (byteVals_len hd).symm))) fun _ F348 => ?_; clear F340
                refine qv 1 (.pointer (some ⟨g10, 0, none⟩)) F348 rfl (rn_field Tryd.underlying30 rfl (by kernel_rfl) (F348.get rfl) rfl) fun _ F350 => ?_; clear F348
                refine qv 2 (.int .i64 idx) F350 rfl (rn_load (isAgg_no Tryd.underlying3 rfl) (F350.get rfl) (b12.rule.1 0)) fun _ F352 => ?_; clear F350
                refine qv 3 (.slice B msg.length cb) F352 rfl (rn_move (F352.get rfl)) fun _ F354 => ?_; clear F352
                have d355 := ((hb.ext hx5).ext hx13)
                refine wpl_op (i := 4) rfl (o_call F354 rfl rfl rfl rfl (rn_call (args3 (F354.get rfl) (F354.get rfl) (F354.get rfl)) rfl (by kernel_rfl)) (rbits_in (v := (.slice B msg.length cb)) (m := msg.length) root idx msg _ hd d355 (by omega) (by omega) (by omega)) ?_)
                rintro _ w360 ⟨A356, c357, rfl, hf358, hx361⟩
                have z359 := (Fl.cel hf358).2.1
                refine ⟨_, rfl, ?_⟩; intro a362 F363; clear F354; have z364 := hx361.size
                have hf365 : Fl (Clip (fun b => w11.heap.size ≤ b) w360) w360 1 (.slice A356 64 c357) 64 (boolVals (bitsL root (idx : Int).toNat msg)) := hf358.clip
                refine qv 5 (.slice A356 64 c357) F363 rfl (rn_assign (F363.get rfl)) fun _ F367 => ?_; clear F363
                refine wpList_nil ?_
                refine hK345 _ _ ?_
                clear hK345
                have F368 := (((((((((F367.nil.c F367 9 rfl).c F367 47 rfl).c F367 8 rfl).c F367 7 rfl).c F367 4 rfl).c F367 3 rfl).c F367 2 rfl).c F367 1 rfl).c F367 0 rfl)
                clear F367
                refine wp_seq_k (fun K369 hK369 => ?_)
                refine wp_region_lit ?_
                refine wpl_op (i := 0) rfl (o_new (fun g => (.slice (some ⟨g, 0, none⟩) 0 0)) [] 37 F368 rfl rfl rfl rfl (rn_buildSlice (parts0 ) (by kernel_rfl)) ?_)
                intro g370 w371 a376 F377 z374 z375 b372 hx373; clear F368
                refine qv 1 (.slice (some ⟨g370, 0, none⟩) 0 0) F377 rfl (rn_assign (F377.get rfl)) fun _ F379 => ?_; clear F377
                refine wpList_nil ?_
                refine hK369 _ _ ?_
                clear hK369
                refine wp_seq_k (fun K380 hK380 => ?_)
                refine wp_seq_k (fun K381 hK381 => ?_)
                refine wp_region_lit ?_
                refine qv 0 (.int .i64 0) F379 rfl (rn_assign rfl) fun _ F383 => ?_; clear F379
                refine wpList_nil ?_
                refine hK381 _ _ ?_
                clear hK381
                refine wp_block ?_
                have hf384 := own_blk0 (k := 32) b372
                have d385 := (hf365.ext hx373)
                have b386 := ((b346.ext hx361).ext hx373)
                have b387 := ((b12.ext hx361).ext hx373)
                refine wp_loop (fun a' W => ∃ (k : Nat) (Ap : Option Addr) (np : Nat) (cp : Nat) (x : List (List UInt8)), Sl 108 [(0, (.agg (byteVals root).toArray)), (1, (.int .i64 n)), (2, (.slice B msg.length cb)), (3, (.agg #[(.int .i64 idx), (.slice O op.length oc), (.slice C cl.length ec), (.slice P pa.length pc)])), (4, (.pointer (some ⟨g2, 0, none⟩))), (7, (.pointer (some ⟨g10, 0, none⟩))), (8, (.bool false)), (47, (.bool (decide ((65536 : Int) < ((msg.length : Nat) : Int))))), (9, (.slice A356 64 c357)), (10, (.slice Ap np cp)), (11, (.int .i64 (k : Nat)))] a' ∧ (k ≤ 64 ∧ np = 2 * k) ∧ x = pairsL (shown (bitsL root ((idx : Int).toNat) msg) ⟨idx, op, cl, pa⟩) k ∧ Ext w W ∧ Blk W g2 37 (byteVals root) ∧ Blk W g10 30 [(.int .i64 idx), (.slice O op.length oc), (.slice C cl.length ec), (.slice P pa.length pc)] ∧ W.ownsRow g370 37 32 (.slice Ap np cp) np (digVals x) ∧ Fl (Clip (fun b => w11.heap.size ≤ b) w360) W 1 (.slice A356 64 c357) 64 (boolVals (bitsL root (idx : Int).toNat msg)) ∧ g370 ≤ W.heap.size ∧ w371.heap.size ≤ W.heap.size) (fun a' _ => 64 - (intOf (a'.eval (.tmp 11))).toNat) ⟨0, (some ⟨g370, 0, none⟩), 0, 0, [], (((((((((((F383.nil.cons (q_get F383 (t := 11) rfl (by first | rfl | (congr 1; omega) | (congr 1; done)))).cons (q_get F383 (t := 10) rfl (by first | rfl | (congr 1; omega) | (congr 1; done)))).cons (q_get F383 (t := 9) rfl rfl)).cons (q_get F383 (t := 47) rfl rfl)).cons (q_get F383 (t := 8) rfl rfl)).cons (q_get F383 (t := 7) rfl rfl)).cons (q_get F383 (t := 4) rfl rfl)).cons (q_get F383 (t := 3) rfl rfl)).cons (q_get F383 (t := 2) rfl rfl)).cons (q_get F383 (t := 1) rfl rfl)).cons (q_get F383 (t := 0) rfl rfl)), ⟨by omega, by omega⟩, rfl, (((((Ext.refl w).trans hx5).trans hx13).trans hx361).trans hx373), b386, b387, hf384, d385, (by omega), (Nat.le_refl _)⟩ ?_
                clear F383
                rintro a388 w389 ⟨k, Ap, np, cp, x, F390, hp392, hp393, hx391, b394, b395, r396, hf397, hf398, hf399⟩
                have hL400 := F390
                have z401 := hx391.size
                have z402 := b394.lt
                have z403 := b395.lt
                have z404 := own_form0 r396
                have hx32 : All32 x := by rw [hp393]; exact pairs_32 fun j b hj => shown_len h32o h32c (show j < op.length by omega) (show j < cl.length by omega)
                refine wp_seq_k (fun K405 hK405 => ?_)
                refine wp_seq_k (fun K406 hK406 => ?_)
                refine wp_region_lit ?_
                refine qv 0 (.int .i64 (k : Nat)) F390 rfl (rn_move (F390.get rfl)) fun _ F408 => ?_; clear F390
                refine qv 1 (.bool (decide (((k : Nat) : Int) < (64 : Int)))) F408 rfl (rn_lss (F408.get rfl) rfl) fun _ F410 => ?_; clear F408
                refine wpList_nil ?_
                refine hK406 _ _ ?_
                clear hK406
                by_cases hc411 : ((k : Nat) : Int) < (64 : Int)
                · skip
                  refine wp_cond_true (c_true F410 rfl (decide_eq_true hc411)) ?_
                  refine wp_skip ?_
                  refine hK405 _ _ ?_
                  clear hK405
                  refine wp_seq_k (fun K412 hK412 => ?_)
                  refine wp_block ?_
                  refine wp_seq_k (fun K413 hK413 => ?_)
                  refine wp_region_lit ?_
                  refine qv 0 (.slice A356 64 c357) F410 rfl (rn_move (F410.get rfl)) fun _ F415 => ?_; clear F410
                  refine qv 1 (.int .i64 (k : Nat)) F415 rfl (rn_move (F415.get rfl)) fun _ F417 => ?_; clear F415
                  obtain ⟨b418, o419, hA420, -⟩ := Fl.at hf397 (by omega)
                  refine qv 2 (.pointer (some ⟨b418, o419 + k, none⟩)) F417 rfl (rn_index1 Tryd.underlying44 inf4 ((F417.get rfl).trans (by rw [hA420])) (F417.get rfl) (by omega : (0 : Int) ≤ (k : Nat)) (by omega : ((k : Nat) : Int) < ((64 : Nat) : Int))) fun _ F422 => ?_; clear F417
                  refine qv 3 (.bool ((bitsL root (idx : Int).toNat msg).getD k false)) F422 rfl (rn_load (isAgg_no Tryd.underlying4 rfl) (F422.get rfl) (Fl.cellAt hf397 hA420 (boolVals_at (i := k) (by have := (bitsL_len root (idx : Int).toNat msg); omega)))) fun _ F424 => ?_; clear F422
                  refine wpList_nil ?_
                  refine hK413 _ _ ?_
                  clear hK413
                  have F425 := (((((((((((((F424.nil.c F424 61 rfl).c F424 55 rfl).c F424 11 rfl).c F424 10 rfl).c F424 9 rfl).c F424 47 rfl).c F424 8 rfl).c F424 7 rfl).c F424 4 rfl).c F424 3 rfl).c F424 2 rfl).c F424 1 rfl).c F424 0 rfl)
                  clear F424
                  rcases Bool.eq_false_or_eq_true ((bitsL root (idx : Int).toNat msg).getD k false) with hc426 | hc426
                  · skip
                    refine wp_cond_true (c_true F425 rfl hc426) ?_
                    have hx428 : ∃ W, w389.drew = W ∧ Ext w389 W := ⟨_, rfl, (Ext.refl _).drew⟩
                    obtain ⟨w427, e429, hx428⟩ := hx428
                    have z430 := hx428.size
                    refine any_start (fun W => Ext w427 W ∧ Blk W g10 30 [(.int .i64 idx), (.slice O op.length oc), (.slice C cl.length ec), (.slice P pa.length pc)]) (fun i => i == 13) 15 #[false, false, false, false, false, false, false, false, false, false, false, false, false, false, false] rfl rfl rfl ?_
                    rw [e429]; clear e429
                    refine qp 0 (.slice Ap np cp) F425 rfl rfl (fun W => (rn_move (F425.get rfl))) fun _ F432 => ?_; clear F425
                    refine qp 1 (.pointer (some ⟨g10, 2, none⟩)) F432 rfl rfl (fun W => (rn_field Tryd.underlying30 rfl (by kernel_rfl) (F432.get rfl) rfl)) fun _ F434 => ?_; clear F432
                    have b436 := (b395.ext hx428)
                    have hS435 : Ext w427 w427 ∧ Blk w427 g10 30 [(.int .i64 idx), (.slice O op.length oc), (.slice C cl.length ec), (.slice P pa.length pc)] := ⟨(Ext.refl w427), b436⟩
                    refine anyt_val (i := 2) (v := (.slice C cl.length ec)) [4, 5, 12, 13] F434 (fun j hj => by simp at hj; first | (subst hj; decide) | (rcases hj with rfl | rfl <;> decide)) (by decide +kernel) (by decide +kernel) rfl rfl rfl rfl (fun _ _ _ _ h => h) rfl hS435 (fun W hW => (rn_load (isAgg_no Tryd.underlying28 rfl) (F434.get rfl) (hW.2.rule.1 2))) ?_
                    intro a437 F438; clear F434
                    refine qp 3 (.int .i64 (k : Nat)) F438 rfl rfl (fun W => (rn_move (F438.get rfl))) fun _ F440 => ?_; clear F438
                    have d444 := ((hce.ext hx391).ext hx428)
                    obtain ⟨b441, o442, hA443, -⟩ := Fl.at d444 (by omega)
                    refine qp 4 (.pointer (some ⟨b441, o442 + k * 32, none⟩)) F440 rfl rfl (fun W => (rn_indexE Tryd.underlying28 inf37 ((F440.get rfl).trans (by rw [hA443])) (F440.get rfl) (by omega : (0 : Int) ≤ (k : Nat)) (by omega : ((k : Nat) : Int) < ((cl.length : Nat) : Int)) (by omega))) fun _ F446 => ?_; clear F440
                    refine anyt_val (i := 5) (v := (.agg (byteVals (cl.getD k [])).toArray)) [12, 13] F446 (fun j hj => by simp at hj; first | (subst hj; decide) | (rcases hj with rfl | rfl <;> decide)) (by decide +kernel) (by decide +kernel) rfl rfl rfl rfl (fun _ _ _ _ h => h) rfl hS435 (fun W hW => (rn_loadN (cs := byteVals (cl.getD k [])) (F446.get rfl) Tryd.underlying37 rfl (inf37.trans (congrArg some (byteVals_len (dig_len h32c k (by omega))).symm)) (Fl.digAt (d444.ext hW.1) hA443 h32c (by omega)))) ?_
                    intro a447 F448; clear F446
                    refine qp 6 (.pointer (some ⟨g10, 1, none⟩)) F448 rfl rfl (fun W => (rn_field Tryd.underlying30 rfl (by kernel_rfl) (F448.get rfl) rfl)) fun _ F450 => ?_; clear F448
                    refine anyt_val (i := 7) (v := (.slice O op.length oc)) [9, 10, 11, 12, 13] F450 (fun j hj => by simp at hj; first | (subst hj; decide) | (rcases hj with rfl | rfl <;> decide)) (by decide +kernel) (by decide +kernel) rfl rfl rfl rfl (fun _ _ _ _ h => h) rfl hS435 (fun W hW => (rn_load (isAgg_no Tryd.underlying28 rfl) (F450.get rfl) (hW.2.rule.1 1))) ?_
                    intro a451 F452; clear F450
                    refine qp 8 (.int .i64 (k : Nat)) F452 rfl rfl (fun W => (rn_move (F452.get rfl))) fun _ F454 => ?_; clear F452
                    have d458 := ((hco.ext hx391).ext hx428)
                    obtain ⟨b455, o456, hA457, -⟩ := Fl.at d458 (by omega)
                    refine qp 9 (.pointer (some ⟨b455, o456 + k * 32, none⟩)) F454 rfl rfl (fun W => (rn_indexE Tryd.underlying28 inf37 ((F454.get rfl).trans (by rw [hA457])) (F454.get rfl) (by omega : (0 : Int) ≤ (k : Nat)) (by omega : ((k : Nat) : Int) < ((op.length : Nat) : Int)) (by omega))) fun _ F460 => ?_; clear F454
                    refine anyt_val (i := 10) (v := (.agg (byteVals (op.getD k [])).toArray)) [11, 12, 13] F460 (fun j hj => by simp at hj; first | (subst hj; decide) | (rcases hj with rfl | rfl <;> decide)) (by decide +kernel) (by decide +kernel) rfl rfl rfl rfl (fun _ _ _ _ h => h) rfl hS435 (fun W hW => (rn_loadN (cs := byteVals (op.getD k [])) (F460.get rfl) Tryd.underlying37 rfl (inf37.trans (congrArg some (byteVals_len (dig_len h32o k (by omega))).symm)) (Fl.digAt (d458.ext hW.1) hA457 h32o (by omega)))) ?_
                    intro a461 F462; clear F460
                    refine any_one (i := 11) (by decide +kernel) rfl ?_
                    refine o_call F462 rfl rfl rfl rfl (rn_call (args1 (F462.get rfl)) rfl (by kernel_rfl)) (rhash_any (op.getD k []) _ (dig_len h32o k (by omega))) ?_
                    rintro _ w463 ⟨rfl, hx464⟩
                    refine ⟨_, rfl, ?_⟩; intro a465 F466; clear F462; have z467 := hx464.size
                    have b468 := (b436.ext hx464)
                    refine ⟨fun _ _ => ⟨((Ext.refl w427).trans hx464), b468⟩, ?_⟩
                    refine any_one (i := 12) (by decide +kernel) rfl ?_
                    have r469 := (own_ext (own_ext r396 hx428) hx464)
                    have hf470 := r469
                    refine o_new (fun g => (.slice (some ⟨g, 0, none⟩) 2 2)) (byteVals ((cl.getD k []) ++ (openD (op.getD k [])))) 37 F466 rfl rfl rfl rfl (rn_buildSlice (parts2 (F466.get rfl) (F466.get rfl)) (build_wholeE (vs := [(.agg (byteVals (cl.getD k [])).toArray), (.agg (byteVals (openD (op.getD k []))).toArray)]) El28 rfl rfl (fun v hv => (List.mem_cons.1 hv).elim (fun h => by rw [h]; exact (byteVals_len (dig_len h32c k (by omega)))) (fun h => by rw [List.mem_singleton.1 h]; exact (byteVals_len (openD_len _)))) (by decide) (by decide) (by simp [Value.cells, byteVals]))) ?_
                    intro g471 w472 a477 F478 z475 z476 b473 hx474; clear F466
                    have nb479 := own_new (g := g471) hf470 (by omega)
                    have b480 := (b468.ext hx474)
                    refine ⟨fun _ _ => ⟨(((Ext.refl w427).trans hx464).trans hx474), b480⟩, ?_⟩
                    refine any_one (i := 13) (by decide +kernel) rfl ?_
                    have r481 := (own_ext r469 hx474)
                    have hf490 := r481
                    have b491 := (((b394.ext hx428).ext hx464).ext hx474)
                    have nb492 : some g2 ≠ (Value.slice Ap np cp).ownBlock := (own_ne r481 (by omega : g2 < g370))
                    have z493 := b491.lt
                    have nb494 : some g471 ≠ (Value.slice Ap np cp).ownBlock := nb479
                    have z495 := b473.lt
                    refine o_appB (zs := digVals (x ++ ([cl.getD k [], openD (op.getD k [])]))) El28 F478 rfl rfl rfl rfl rfl (F478.get rfl) (F478.get rfl) hf490 (Fl.cel (Fl.digblk (S := fun b => b = g471) b473 (All32.cons (dig_len h32c k (by omega)) (All32.sing (openD_len _))) (by simp [digVals, byteVals]))).2.2 (by omega) (by omega) (by omega) (digVals_app _ _) ?_
                    intro A482 c483 w484 a496 F497 r485 hg486 z487 z488 hnb489; clear F478; have z498 := hg486.size
                    have nb499 := hnb489 g2 (by omega) nb492
                    have nb500 := hnb489 g471 (by omega) nb494
                    refine ⟨fun h => absurd h (by decide), ?_⟩
                    refine qp 14 (.slice A482 (np + 2) c483) F497 rfl rfl (fun W => (rn_assign (F497.get rfl))) fun _ F502 => ?_; clear F497
                    refine any_nil (by decide +kernel) ?_
                    refine hK412 _ _ ?_
                    clear hK412
                    have F503 := (((((((((((((F502.nil.c F502 61 rfl).c F502 55 rfl).c F502 11 rfl).c F502 10 rfl).c F502 9 rfl).c F502 47 rfl).c F502 8 rfl).c F502 7 rfl).c F502 4 rfl).c F502 3 rfl).c F502 2 rfl).c F502 1 rfl).c F502 0 rfl)
                    clear F502
                    refine wp_region_lit ?_
                    refine qv 0 (.int .i64 (k : Nat)) F503 rfl (rn_move (F503.get rfl)) fun _ F505 => ?_; clear F503
                    refine qv 1 (.int .i64 (k + 1 : Nat)) F505 rfl (rn_addN (a := k) (b := 1) (F505.get rfl) rfl (by omega)) fun _ F507 => ?_; clear F505
                    refine qv 2 (.int .i64 (k + 1 : Nat)) F507 rfl (rn_assign (F507.get rfl)) fun _ F509 => ?_; clear F507
                    refine wpList_nil ?_
                    have d510 := (hf397.pres (Pres.row ((((Pres.refl w389).ext hx428).ext hx464).ext hx474) hg486 hf490 (fun b hb h => by simp only [Clip] at h; omega)))
                    have b511 := (b491.grown hg486 nb492)
                    have b512 := (grown_blk hf490 hg486 b480 (by decide))
                    refine ⟨⟨(k + 1), A482, np + 2, c483, x ++ ([cl.getD k [], openD (op.getD k [])]), (((((((((((F509.nil.cons (q_get F509 (t := 11) rfl (by first | rfl | (congr 1; omega) | (congr 1; done)))).cons (q_get F509 (t := 10) rfl (by first | rfl | (congr 1; omega) | (congr 1; done)))).cons (q_get F509 (t := 9) rfl rfl)).cons (q_get F509 (t := 47) rfl rfl)).cons (q_get F509 (t := 8) rfl rfl)).cons (q_get F509 (t := 7) rfl rfl)).cons (q_get F509 (t := 4) rfl rfl)).cons (q_get F509 (t := 3) rfl rfl)).cons (q_get F509 (t := 2) rfl rfl)).cons (q_get F509 (t := 1) rfl rfl)).cons (q_get F509 (t := 0) rfl rfl)), ⟨by omega, by omega⟩, (pair_t (s := ⟨idx, op, cl, pa⟩) hp393 hc426), (ext_row (((((Ext.refl w).trans hx391).trans hx428).trans hx464).trans hx474) hg486 hf490 (by omega)), b511, b512, r485, d510, (by omega), (by omega)⟩, ?_⟩
                    rw [F509.get (t := 11) rfl, hL400.get (t := 11) rfl]; simp [intOf] <;> omega
                  · skip
                    refine wp_cond_false (c_false F425 rfl hc426) ?_
                    have hx514 : ∃ W, w389.drew = W ∧ Ext w389 W := ⟨_, rfl, (Ext.refl _).drew⟩
                    obtain ⟨w513, e515, hx514⟩ := hx514
                    have z516 := hx514.size
                    refine any_start (fun W => Ext w513 W ∧ Blk W g10 30 [(.int .i64 idx), (.slice O op.length oc), (.slice C cl.length ec), (.slice P pa.length pc)]) (fun i => i == 13) 15 #[false, false, false, false, false, false, false, false, false, false, false, false, false, false, false] rfl rfl rfl ?_
                    rw [e515]; clear e515
                    refine qp 0 (.slice Ap np cp) F425 rfl rfl (fun W => (rn_move (F425.get rfl))) fun _ F518 => ?_; clear F425
                    refine qp 1 (.pointer (some ⟨g10, 1, none⟩)) F518 rfl rfl (fun W => (rn_field Tryd.underlying30 rfl (by kernel_rfl) (F518.get rfl) rfl)) fun _ F520 => ?_; clear F518
                    have b522 := (b395.ext hx514)
                    have hS521 : Ext w513 w513 ∧ Blk w513 g10 30 [(.int .i64 idx), (.slice O op.length oc), (.slice C cl.length ec), (.slice P pa.length pc)] := ⟨(Ext.refl w513), b522⟩
                    refine anyt_val (i := 2) (v := (.slice O op.length oc)) [4, 5, 6, 12, 13] F520 (fun j hj => by simp at hj; first | (subst hj; decide) | (rcases hj with rfl | rfl <;> decide)) (by decide +kernel) (by decide +kernel) rfl rfl rfl rfl (fun _ _ _ _ h => h) rfl hS521 (fun W hW => (rn_load (isAgg_no Tryd.underlying28 rfl) (F520.get rfl) (hW.2.rule.1 1))) ?_
                    intro a523 F524; clear F520
                    refine qp 3 (.int .i64 (k : Nat)) F524 rfl rfl (fun W => (rn_move (F524.get rfl))) fun _ F526 => ?_; clear F524
                    have d530 := ((hco.ext hx391).ext hx514)
                    obtain ⟨b527, o528, hA529, -⟩ := Fl.at d530 (by omega)
                    refine qp 4 (.pointer (some ⟨b527, o528 + k * 32, none⟩)) F526 rfl rfl (fun W => (rn_indexE Tryd.underlying28 inf37 ((F526.get rfl).trans (by rw [hA529])) (F526.get rfl) (by omega : (0 : Int) ≤ (k : Nat)) (by omega : ((k : Nat) : Int) < ((op.length : Nat) : Int)) (by omega))) fun _ F532 => ?_; clear F526
                    refine anyt_val (i := 5) (v := (.agg (byteVals (op.getD k [])).toArray)) [6, 12, 13] F532 (fun j hj => by simp at hj; first | (subst hj; decide) | (rcases hj with rfl | rfl <;> decide)) (by decide +kernel) (by decide +kernel) rfl rfl rfl rfl (fun _ _ _ _ h => h) rfl hS521 (fun W hW => (rn_loadN (cs := byteVals (op.getD k [])) (F532.get rfl) Tryd.underlying37 rfl (inf37.trans (congrArg some (byteVals_len (dig_len h32o k (by omega))).symm)) (Fl.digAt (d530.ext hW.1) hA529 h32o (by omega)))) ?_
                    intro a533 F534; clear F532
                    refine qp 7 (.pointer (some ⟨g10, 2, none⟩)) F534 rfl rfl (fun W => (rn_field Tryd.underlying30 rfl (by kernel_rfl) (F534.get rfl) rfl)) fun _ F536 => ?_; clear F534
                    refine anyt_val (i := 8) (v := (.slice C cl.length ec)) [10, 11, 12, 13] F536 (fun j hj => by simp at hj; first | (subst hj; decide) | (rcases hj with rfl | rfl <;> decide)) (by decide +kernel) (by decide +kernel) rfl rfl rfl rfl (fun _ _ _ _ h => h) rfl hS521 (fun W hW => (rn_load (isAgg_no Tryd.underlying28 rfl) (F536.get rfl) (hW.2.rule.1 2))) ?_
                    intro a537 F538; clear F536
                    refine qp 9 (.int .i64 (k : Nat)) F538 rfl rfl (fun W => (rn_move (F538.get rfl))) fun _ F540 => ?_; clear F538
                    have d544 := ((hce.ext hx391).ext hx514)
                    obtain ⟨b541, o542, hA543, -⟩ := Fl.at d544 (by omega)
                    refine qp 10 (.pointer (some ⟨b541, o542 + k * 32, none⟩)) F540 rfl rfl (fun W => (rn_indexE Tryd.underlying28 inf37 ((F540.get rfl).trans (by rw [hA543])) (F540.get rfl) (by omega : (0 : Int) ≤ (k : Nat)) (by omega : ((k : Nat) : Int) < ((cl.length : Nat) : Int)) (by omega))) fun _ F546 => ?_; clear F540
                    refine anyt_val (i := 11) (v := (.agg (byteVals (cl.getD k [])).toArray)) [12, 13] F546 (fun j hj => by simp at hj; first | (subst hj; decide) | (rcases hj with rfl | rfl <;> decide)) (by decide +kernel) (by decide +kernel) rfl rfl rfl rfl (fun _ _ _ _ h => h) rfl hS521 (fun W hW => (rn_loadN (cs := byteVals (cl.getD k [])) (F546.get rfl) Tryd.underlying37 rfl (inf37.trans (congrArg some (byteVals_len (dig_len h32c k (by omega))).symm)) (Fl.digAt (d544.ext hW.1) hA543 h32c (by omega)))) ?_
                    intro a547 F548; clear F546
                    refine any_one (i := 6) (by decide +kernel) rfl ?_
                    refine o_call F548 rfl rfl rfl rfl (rn_call (args1 (F548.get rfl)) rfl (by kernel_rfl)) (rhash_any (op.getD k []) _ (dig_len h32o k (by omega))) ?_
                    rintro _ w549 ⟨rfl, hx550⟩
                    refine ⟨_, rfl, ?_⟩; intro a551 F552; clear F548; have z553 := hx550.size
                    have b554 := (b522.ext hx550)
                    refine ⟨fun _ _ => ⟨((Ext.refl w513).trans hx550), b554⟩, ?_⟩
                    refine any_one (i := 12) (by decide +kernel) rfl ?_
                    have r555 := (own_ext (own_ext r396 hx514) hx550)
                    have hf556 := r555
                    refine o_new (fun g => (.slice (some ⟨g, 0, none⟩) 2 2)) (byteVals ((openD (op.getD k [])) ++ (cl.getD k []))) 37 F552 rfl rfl rfl rfl (rn_buildSlice (parts2 (F552.get rfl) (F552.get rfl)) (build_wholeE (vs := [(.agg (byteVals (openD (op.getD k []))).toArray), (.agg (byteVals (cl.getD k [])).toArray)]) El28 rfl rfl (fun v hv => (List.mem_cons.1 hv).elim (fun h => by rw [h]; exact (byteVals_len (openD_len _))) (fun h => by rw [List.mem_singleton.1 h]; exact (byteVals_len (dig_len h32c k (by omega))))) (by decide) (by decide) (by simp [Value.cells, byteVals]))) ?_
                    intro g557 w558 a563 F564 z561 z562 b559 hx560; clear F552
                    have nb565 := own_new (g := g557) hf556 (by omega)
                    have b566 := (b554.ext hx560)
                    refine ⟨fun _ _ => ⟨(((Ext.refl w513).trans hx550).trans hx560), b566⟩, ?_⟩
                    refine any_one (i := 13) (by decide +kernel) rfl ?_
                    have r567 := (own_ext r555 hx560)
                    have hf576 := r567
                    have b577 := (((b394.ext hx514).ext hx550).ext hx560)
                    have nb578 : some g2 ≠ (Value.slice Ap np cp).ownBlock := (own_ne r567 (by omega : g2 < g370))
                    have z579 := b577.lt
                    have nb580 : some g557 ≠ (Value.slice Ap np cp).ownBlock := nb565
                    have z581 := b559.lt
                    refine o_appB (zs := digVals (x ++ ([openD (op.getD k []), cl.getD k []]))) El28 F564 rfl rfl rfl rfl rfl (F564.get rfl) (F564.get rfl) hf576 (Fl.cel (Fl.digblk (S := fun b => b = g557) b559 (All32.cons (openD_len _) (All32.sing (dig_len h32c k (by omega)))) (by simp [digVals, byteVals]))).2.2 (by omega) (by omega) (by omega) (digVals_app _ _) ?_
                    intro A568 c569 w570 a582 F583 r571 hg572 z573 z574 hnb575; clear F564; have z584 := hg572.size
                    have nb585 := hnb575 g2 (by omega) nb578
                    have nb586 := hnb575 g557 (by omega) nb580
                    refine ⟨fun h => absurd h (by decide), ?_⟩
                    refine qp 14 (.slice A568 (np + 2) c569) F583 rfl rfl (fun W => (rn_assign (F583.get rfl))) fun _ F588 => ?_; clear F583
                    refine any_nil (by decide +kernel) ?_
                    refine hK412 _ _ ?_
                    clear hK412
                    have F589 := (((((((((((((F588.nil.c F588 61 rfl).c F588 55 rfl).c F588 11 rfl).c F588 10 rfl).c F588 9 rfl).c F588 47 rfl).c F588 8 rfl).c F588 7 rfl).c F588 4 rfl).c F588 3 rfl).c F588 2 rfl).c F588 1 rfl).c F588 0 rfl)
                    clear F588
                    refine wp_region_lit ?_
                    refine qv 0 (.int .i64 (k : Nat)) F589 rfl (rn_move (F589.get rfl)) fun _ F591 => ?_; clear F589
                    refine qv 1 (.int .i64 (k + 1 : Nat)) F591 rfl (rn_addN (a := k) (b := 1) (F591.get rfl) rfl (by omega)) fun _ F593 => ?_; clear F591
                    refine qv 2 (.int .i64 (k + 1 : Nat)) F593 rfl (rn_assign (F593.get rfl)) fun _ F595 => ?_; clear F593
                    refine wpList_nil ?_
                    have d596 := (hf397.pres (Pres.row ((((Pres.refl w389).ext hx514).ext hx550).ext hx560) hg572 hf576 (fun b hb h => by simp only [Clip] at h; omega)))
                    have b597 := (b577.grown hg572 nb578)
                    have b598 := (grown_blk hf576 hg572 b566 (by decide))
                    refine ⟨⟨(k + 1), A568, np + 2, c569, x ++ ([openD (op.getD k []), cl.getD k []]), (((((((((((F595.nil.cons (q_get F595 (t := 11) rfl (by first | rfl | (congr 1; omega) | (congr 1; done)))).cons (q_get F595 (t := 10) rfl (by first | rfl | (congr 1; omega) | (congr 1; done)))).cons (q_get F595 (t := 9) rfl rfl)).cons (q_get F595 (t := 47) rfl rfl)).cons (q_get F595 (t := 8) rfl rfl)).cons (q_get F595 (t := 7) rfl rfl)).cons (q_get F595 (t := 4) rfl rfl)).cons (q_get F595 (t := 3) rfl rfl)).cons (q_get F595 (t := 2) rfl rfl)).cons (q_get F595 (t := 1) rfl rfl)).cons (q_get F595 (t := 0) rfl rfl)), ⟨by omega, by omega⟩, (pair_f (s := ⟨idx, op, cl, pa⟩) hp393 hc426), (ext_row (((((Ext.refl w).trans hx391).trans hx514).trans hx550).trans hx560) hg572 hf576 (by omega)), b597, b598, r571, d596, (by omega), (by omega)⟩, ?_⟩
                    rw [F595.get (t := 11) rfl, hL400.get (t := 11) rfl]; simp [intOf] <;> omega
                · skip
                  refine wp_cond_false (c_false F410 rfl (decide_eq_false hc411)) ?_
                  refine wp_exit ?_
                  refine exit_then ?_
                  refine exit_then ?_
                  refine exit_here ?_
                  refine hK380 _ _ ?_
                  clear hK380
                  refine wp_seq_k (fun K599 hK599 => ?_)
                  have hk : k = 64 := by omega
                  have hxx := hp393
                  rw [hk] at hxx
                  have hx601 : ∃ W, w389.drew = W ∧ Ext w389 W := ⟨_, rfl, (Ext.refl _).drew⟩
                  obtain ⟨w600, e602, hx601⟩ := hx601
                  have z603 := hx601.size
                  refine any_start (fun W => Ext w600 W ∧ Blk W g10 30 [(.int .i64 idx), (.slice O op.length oc), (.slice C cl.length ec), (.slice P pa.length pc)]) (fun i => i == 12) 14 #[false, false, false, false, false, false, false, false, false, false, false, false, false, false] rfl rfl rfl ?_
                  rw [e602]; clear e602
                  refine any_have (n1 := 2) (L1 := #[true, true, true, true, true, true, true, true, true, true, true, true, false, false]) (fun a' W => ∃ (g659 : Nat), Sl 108 [(0, (.agg (byteVals root).toArray)), (1, (.int .i64 n)), (2, (.slice B msg.length cb)), (3, (.agg #[(.int .i64 idx), (.slice O op.length oc), (.slice C cl.length ec), (.slice P pa.length pc)])), (4, (.pointer (some ⟨g2, 0, none⟩))), (7, (.pointer (some ⟨g10, 0, none⟩))), (8, (.bool false)), (9, (.slice A356 64 c357)), (10, (.slice Ap np cp)), (11, (.int .i64 (k : Nat))), (12, (.pointer (some ⟨g659, 0, none⟩))), (47, (.bool (decide ((65536 : Int) < ((msg.length : Nat) : Int))))), (55, (.bool (decide (((k : Nat) : Int) < (64 : Int))))), (99, (.agg (byteVals ((climbF (tagged [111, 110, 101] x.flatten) idx n pa).1)).toArray)), (100, (.int .i64 ((climbF (tagged [111, 110, 101] x.flatten) idx n pa).2)))] a' ∧ Ext w600 W ∧ Blk W g659 37 (byteVals (List.replicate 32 0)) ∧ w600.heap.size ≤ g659) ?_ (fun st675 => ?_)
                  · skip
                    rintro a676 w677 ⟨g659, F678, hx679, b680, z681⟩
                    clear F410
                    have z682 := hx679.size
                    have z683 := b680.lt
                    refine any_one (i := 12) (by decide +kernel) rfl ?_
                    refine o_store (cells := (byteVals ((climbF (tagged [111, 110, 101] x.flatten) idx n pa).1))) F678 rfl rfl rfl rfl (F678.get rfl) (F678.get rfl) b680 (inf37.trans (congrArg some (byteVals_len (climbF_len _ _ _ _)).symm)) ((byteVals_len (show List.length (List.replicate 32 0) = _ from List.length_replicate)).trans (byteVals_len (climbF_len _ _ _ _)).symm) (byteVals_one _) ?_
                    intro w684 b685 hg686; have z687 := hg686.size
                    refine ⟨fun h => absurd h (by decide), ?_⟩
                    refine qp 13 (.int .i64 ((climbF (tagged [111, 110, 101] x.flatten) idx n pa).2)) F678 rfl rfl (fun W => (rn_assign (F678.get rfl))) fun _ F689 => ?_; clear F678
                    refine any_nil (by decide +kernel) ?_
                    refine hK599 _ _ ?_
                    clear hK599
                    refine wp_seq_k (fun K690 hK690 => ?_)
                    refine wp_region_lit ?_
                    refine qv 0 (.int .i64 ((climbF (tagged [111, 110, 101] x.flatten) idx n pa).2)) F689 rfl (rn_move (F689.get rfl)) fun _ F692 => ?_; clear F689
                    refine qv 1 (.bool (decide (((climbF (tagged [111, 110, 101] x.flatten) idx n pa).2 : Int) = (0 : Int)))) F692 rfl (rn_eql (F692.get rfl) rfl) fun _ F694 => ?_; clear F692
                    refine qv 2 (.bool (decide (((climbF (tagged [111, 110, 101] x.flatten) idx n pa).2 : Int) = (0 : Int)))) F694 rfl (rn_move (F694.get rfl)) fun _ F696 => ?_; clear F694
                    by_cases hc697 : ((climbF (tagged [111, 110, 101] x.flatten) idx n pa).2 : Int) = (0 : Int)
                    · skip
                      refine qg 3 (.agg (byteVals ((climbF (tagged [111, 110, 101] x.flatten) idx n pa).1)).toArray) F696 (decide_eq_true hc697) (rn_loadBlk (F696.get rfl) b685 Tryd.underlying37 rfl (inf37.trans (congrArg some (byteVals_len (climbF_len _ _ _ _)).symm))) fun _ F699 => ?_; clear F696
                      have b700 := (((b394.ext hx601).ext hx679).grownN hg686 (by omega))
                      refine qg 4 (.agg (byteVals root).toArray) F699 (decide_eq_true hc697) (rn_loadBlk (F699.get rfl) b700 Tryd.underlying37 rfl (inf37.trans (congrArg some (byteVals_len hd).symm))) fun _ F702 => ?_; clear F699
                      refine qg 5 (.bool (decide ((climbF (tagged [111, 110, 101] x.flatten) idx n pa).1 = root))) F702 (decide_eq_true hc697) (rn_eqA Tryd.underlying37 Tryd.underlying5 inf5 (by kernel_rfl) (F702.get rfl) (F702.get rfl) (climbF_len _ _ _ _) hd) fun _ F704 => ?_; clear F702
                      refine qv 6 (.bool (decide ((climbF (tagged [111, 110, 101] x.flatten) idx n pa).1 = root))) F704 rfl (rn_pickT (c_true F704 rfl (decide_eq_true hc697)) (F704.get rfl)) fun _ F706 => ?_; clear F704
                      refine qv 7 (.bool (decide ((climbF (tagged [111, 110, 101] x.flatten) idx n pa).1 = root))) F706 rfl (rn_assign (F706.get rfl)) fun _ F708 => ?_; clear F706
                      refine wpList_nil ?_
                      refine hK690 _ _ ?_
                      clear hK690
                      have F709 := ((((((((((((((F708.nil.c F708 13 rfl).c F708 55 rfl).c F708 47 rfl).c F708 12 rfl).c F708 11 rfl).c F708 10 rfl).c F708 9 rfl).c F708 8 rfl).c F708 7 rfl).c F708 4 rfl).c F708 3 rfl).c F708 2 rfl).c F708 1 rfl).c F708 0 rfl)
                      clear F708
                      refine wp_ret ?_
                      refine ret1 F709 rfl rfl ?_
                      have hv : vShape n msg ⟨idx, op, cl, pa⟩ := by unfold vShape; simp only; omega
                      have hcs : climbS root n msg ⟨idx, op, cl, pa⟩ = climbF (tagged [111, 110, 101] x.flatten) idx n pa := by rw [hxx, publicD_pairs]; rfl
                      exact ⟨by rw [verify_yes hv, hcs, show decide (_ = (0 : Int)) = true from (decide_eq_true hc697), Bool.true_and], (((((Ext.refl w).trans hx391).trans hx601).trans hx679).grownN hg686 (by omega))⟩
                    · skip
                      refine qu 3 F696 (decide_eq_false hc697) fun _ F711 => ?_; clear F696
                      refine qu 4 F711 (decide_eq_false hc697) fun _ F713 => ?_; clear F711
                      refine qu 5 F713 (decide_eq_false hc697) fun _ F715 => ?_; clear F713
                      refine qv 6 (.bool false) F715 rfl (rn_pickF (c_false F715 rfl (decide_eq_false hc697)) rfl) fun _ F717 => ?_; clear F715
                      refine qv 7 (.bool false) F717 rfl (rn_assign (F717.get rfl)) fun _ F719 => ?_; clear F717
                      refine wpList_nil ?_
                      refine hK690 _ _ ?_
                      clear hK690
                      have F720 := ((((((((((((((F719.nil.c F719 13 rfl).c F719 55 rfl).c F719 47 rfl).c F719 12 rfl).c F719 11 rfl).c F719 10 rfl).c F719 9 rfl).c F719 8 rfl).c F719 7 rfl).c F719 4 rfl).c F719 3 rfl).c F719 2 rfl).c F719 1 rfl).c F719 0 rfl)
                      clear F719
                      refine wp_ret ?_
                      refine ret1 F720 rfl rfl ?_
                      have hv : vShape n msg ⟨idx, op, cl, pa⟩ := by unfold vShape; simp only; omega
                      have hcs : climbS root n msg ⟨idx, op, cl, pa⟩ = climbF (tagged [111, 110, 101] x.flatten) idx n pa := by rw [hxx, publicD_pairs]; rfl
                      exact ⟨by rw [verify_yes hv, hcs, show decide (_ = (0 : Int)) = false from (decide_eq_false hc697)]; rfl, (((((Ext.refl w).trans hx391).trans hx601).trans hx679).grownN hg686 (by omega))⟩
                  refine any_have (n1 := 6) (L1 := #[true, true, true, true, true, true, true, false, false, false, false, true, false, false]) (fun a' W => ∃ (g627 : Nat), Sl 108 [(0, (.agg (byteVals root).toArray)), (1, (.int .i64 n)), (2, (.slice B msg.length cb)), (3, (.agg #[(.int .i64 idx), (.slice O op.length oc), (.slice C cl.length ec), (.slice P pa.length pc)])), (4, (.pointer (some ⟨g2, 0, none⟩))), (7, (.pointer (some ⟨g10, 0, none⟩))), (8, (.bool false)), (9, (.slice A356 64 c357)), (10, (.slice Ap np cp)), (11, (.int .i64 (k : Nat))), (12, (.pointer (some ⟨g627, 0, none⟩))), (47, (.bool (decide ((65536 : Int) < ((msg.length : Nat) : Int))))), (55, (.bool (decide (((k : Nat) : Int) < (64 : Int))))), (92, (.agg (byteVals (tagged [111, 110, 101] x.flatten)).toArray)), (94, (.int .i64 idx)), (95, (.int .i64 n)), (97, (.slice P pa.length pc))] a' ∧ Ext w600 W ∧ Blk W g627 37 (byteVals (List.replicate 32 0)) ∧ w600.heap.size ≤ g627) ?_ (fun st721 => ?_)
                  · skip
                    rintro a722 w723 ⟨g627, F724, hx725, b726, z727⟩
                    clear F410
                    have z728 := hx725.size
                    have z729 := b726.lt
                    refine any_one (i := 7) (by decide +kernel) rfl ?_
                    have d730 := (((hcp.ext hx391).ext hx601).ext hx725)
                    refine o_call F724 rfl rfl rfl rfl (rn_call (args4 (F724.get rfl) (F724.get rfl) (F724.get rfl) (F724.get rfl)) rfl (by kernel_rfl)) (rClimb_at (tagged [111, 110, 101] x.flatten) idx n pa _ (v := (.slice P pa.length pc)) (m := pa.length) (tagged_len _ _) h32p d730) ?_
                    rintro _ w731 ⟨rfl, hx732⟩
                    refine ⟨_, rfl, ?_⟩; intro a733 F734; clear F724; have z735 := hx732.size
                    have b736 := (((b395.ext hx601).ext hx725).ext hx732)
                    refine ⟨fun _ _ => ⟨(((Ext.refl w600).trans hx725).trans hx732), b736⟩, ?_⟩
                    refine qp 8 (.tuple #[(.agg (byteVals ((climbF (tagged [111, 110, 101] x.flatten) idx n pa).1)).toArray), (.int .i64 ((climbF (tagged [111, 110, 101] x.flatten) idx n pa).2))]) F734 rfl rfl (fun W => (rn_move (F734.get rfl))) fun _ F738 => ?_; clear F734
                    refine qp 9 (.agg (byteVals ((climbF (tagged [111, 110, 101] x.flatten) idx n pa).1)).toArray) F738 rfl rfl (fun W => (rn_extract (F738.get rfl) rfl)) fun _ F740 => ?_; clear F738
                    refine qp 10 (.int .i64 ((climbF (tagged [111, 110, 101] x.flatten) idx n pa).2)) F740 rfl rfl (fun W => (rn_extract (F740.get rfl) rfl)) fun _ F742 => ?_; clear F740
                    have b743 := (b726.ext hx732)
                    exact st675 _ _ ⟨g627, (((((((((((((((F742.nil.c F742 100 rfl).c F742 99 rfl).c F742 55 rfl).c F742 47 rfl).c F742 12 rfl).c F742 11 rfl).c F742 10 rfl).c F742 9 rfl).c F742 8 rfl).c F742 7 rfl).c F742 4 rfl).c F742 3 rfl).c F742 2 rfl).c F742 1 rfl).c F742 0 rfl), (((Ext.refl w600).trans hx725).trans hx732), b743, (by omega)⟩
                  refine qp 0 (.slice Ap np cp) F410 rfl rfl (fun W => (rn_move (F410.get rfl))) fun _ F745 => ?_; clear F410
                  refine qp 2 (.pointer (some ⟨g10, 0, none⟩)) F745 rfl rfl (fun W => (rn_field Tryd.underlying30 rfl (by kernel_rfl) (F745.get rfl) rfl)) fun _ F747 => ?_; clear F745
                  have b749 := (b395.ext hx601)
                  have hS748 : Ext w600 w600 ∧ Blk w600 g10 30 [(.int .i64 idx), (.slice O op.length oc), (.slice C cl.length ec), (.slice P pa.length pc)] := ⟨(Ext.refl w600), b749⟩
                  refine qs 3 (.int .i64 idx) F747 rfl rfl hS748 (fun W hW => (rn_load (isAgg_no Tryd.underlying3 rfl) (F747.get rfl) (hW.2.rule.1 0))) fun _ F751 => ?_; clear F747
                  refine qp 4 (.int .i64 n) F751 rfl rfl (fun W => (rn_move (F751.get rfl))) fun _ F753 => ?_; clear F751
                  refine qp 5 (.pointer (some ⟨g10, 3, none⟩)) F753 rfl rfl (fun W => (rn_field Tryd.underlying30 rfl (by kernel_rfl) (F753.get rfl) rfl)) fun _ F755 => ?_; clear F753
                  refine qs 6 (.slice P pa.length pc) F755 rfl rfl hS748 (fun W hW => (rn_load (isAgg_no Tryd.underlying28 rfl) (F755.get rfl) (hW.2.rule.1 3))) fun _ F757 => ?_; clear F755
                  refine any_two (i := 1) (k := 11) (by decide +kernel) rfl rfl ?_ ?_
                  · skip
                    have r758 := (own_ext r396 hx601)
                    refine o_call F757 rfl rfl rfl rfl (rn_call (args1 (F757.get rfl)) rfl (by kernel_rfl)) (rone_at (v := (.slice Ap np cp)) (m := np) x _ hx32 (Fl.own (S := fun b => g370 ≤ b) r758 (fun b hb => hb) (digVals_one _)) (by omega)) ?_
                    rintro _ w759 ⟨rfl, hx760⟩
                    refine ⟨_, rfl, ?_⟩; intro a761 F762; clear F757; have z763 := hx760.size
                    have b764 := (b749.ext hx760)
                    refine ⟨fun _ _ => ⟨((Ext.refl w600).trans hx760), b764⟩, ?_⟩
                    refine any_two (i := 7) (k := 11) (by decide +kernel) rfl rfl ?_ ?_
                    · skip
                      have d765 := (((hcp.ext hx391).ext hx601).ext hx760)
                      refine o_call F762 rfl rfl rfl rfl (rn_call (args4 (F762.get rfl) (F762.get rfl) (F762.get rfl) (F762.get rfl)) rfl (by kernel_rfl)) (rClimb_at (tagged [111, 110, 101] x.flatten) idx n pa _ (v := (.slice P pa.length pc)) (m := pa.length) (tagged_len _ _) h32p d765) ?_
                      rintro _ w766 ⟨rfl, hx767⟩
                      refine ⟨_, rfl, ?_⟩; intro a768 F769; clear F762; have z770 := hx767.size
                      have b771 := (b764.ext hx767)
                      refine ⟨fun _ _ => ⟨(((Ext.refl w600).trans hx760).trans hx767), b771⟩, ?_⟩
                      refine qp 8 (.tuple #[(.agg (byteVals ((climbF (tagged [111, 110, 101] x.flatten) idx n pa).1)).toArray), (.int .i64 ((climbF (tagged [111, 110, 101] x.flatten) idx n pa).2))]) F769 rfl rfl (fun W => (rn_move (F769.get rfl))) fun _ F773 => ?_; clear F769
                      refine qp 9 (.agg (byteVals ((climbF (tagged [111, 110, 101] x.flatten) idx n pa).1)).toArray) F773 rfl rfl (fun W => (rn_extract (F773.get rfl) rfl)) fun _ F775 => ?_; clear F773
                      refine qp 10 (.int .i64 ((climbF (tagged [111, 110, 101] x.flatten) idx n pa).2)) F775 rfl rfl (fun W => (rn_extract (F775.get rfl) rfl)) fun _ F777 => ?_; clear F775
                      refine any_one (i := 11) (by decide +kernel) rfl ?_
                      have r778 := (own_ext (own_ext r758 hx760) hx767)
                      have hf779 := r778
                      refine o_new (fun g => (.pointer (some ⟨g, 0, none⟩))) (byteVals (List.replicate 32 0)) 37 F777 rfl rfl rfl rfl (by kernel_rfl) ?_
                      intro g780 w781 a786 F787 z784 z785 b782 hx783; clear F777
                      have nb788 := own_new (g := g780) hf779 (by omega)
                      have b789 := (b771.ext hx783)
                      refine ⟨fun _ _ => ⟨((((Ext.refl w600).trans hx760).trans hx767).trans hx783), b789⟩, ?_⟩
                      exact st675 _ _ ⟨g780, (((((((((((((((F787.nil.c F787 100 rfl).c F787 99 rfl).c F787 55 rfl).c F787 47 rfl).c F787 12 rfl).c F787 11 rfl).c F787 10 rfl).c F787 9 rfl).c F787 8 rfl).c F787 7 rfl).c F787 4 rfl).c F787 3 rfl).c F787 2 rfl).c F787 1 rfl).c F787 0 rfl), ((((Ext.refl w600).trans hx760).trans hx767).trans hx783), b782, (by omega)⟩
                    · skip
                      have r790 := (own_ext r758 hx760)
                      have hf791 := r790
                      refine o_new (fun g => (.pointer (some ⟨g, 0, none⟩))) (byteVals (List.replicate 32 0)) 37 F762 rfl rfl rfl rfl (by kernel_rfl) ?_
                      intro g792 w793 a798 F799 z796 z797 b794 hx795; clear F762
                      have nb800 := own_new (g := g792) hf791 (by omega)
                      have b801 := (b764.ext hx795)
                      refine ⟨fun _ _ => ⟨(((Ext.refl w600).trans hx760).trans hx795), b801⟩, ?_⟩
                      exact st721 _ _ ⟨g792, (((((((((((((((((F799.nil.c F799 97 rfl).c F799 95 rfl).c F799 94 rfl).c F799 92 rfl).c F799 55 rfl).c F799 47 rfl).c F799 12 rfl).c F799 11 rfl).c F799 10 rfl).c F799 9 rfl).c F799 8 rfl).c F799 7 rfl).c F799 4 rfl).c F799 3 rfl).c F799 2 rfl).c F799 1 rfl).c F799 0 rfl), (((Ext.refl w600).trans hx760).trans hx795), b794, (by omega)⟩
                  · skip
                    have r802 := (own_ext r396 hx601)
                    have hf803 := r802
                    refine o_new (fun g => (.pointer (some ⟨g, 0, none⟩))) (byteVals (List.replicate 32 0)) 37 F757 rfl rfl rfl rfl (by kernel_rfl) ?_
                    intro g804 w805 a810 F811 z808 z809 b806 hx807; clear F757
                    have nb812 := own_new (g := g804) hf803 (by omega)
                    have b813 := (b749.ext hx807)
                    refine ⟨fun _ _ => ⟨((Ext.refl w600).trans hx807), b813⟩, ?_⟩
                    refine any_one (i := 1) (by decide +kernel) rfl ?_
                    have r814 := (own_ext r802 hx807)
                    refine o_call F811 rfl rfl rfl rfl (rn_call (args1 (F811.get rfl)) rfl (by kernel_rfl)) (rone_at (v := (.slice Ap np cp)) (m := np) x _ hx32 (Fl.own (S := fun b => g370 ≤ b) r814 (fun b hb => hb) (digVals_one _)) (by omega)) ?_
                    rintro _ w815 ⟨rfl, hx816⟩
                    refine ⟨_, rfl, ?_⟩; intro a817 F818; clear F811; have z819 := hx816.size
                    have b820 := (b813.ext hx816)
                    refine ⟨fun _ _ => ⟨(((Ext.refl w600).trans hx807).trans hx816), b820⟩, ?_⟩
                    have b821 := (b806.ext hx816)
                    exact st721 _ _ ⟨g804, (((((((((((((((((F818.nil.c F818 97 rfl).c F818 95 rfl).c F818 94 rfl).c F818 92 rfl).c F818 55 rfl).c F818 47 rfl).c F818 12 rfl).c F818 11 rfl).c F818 10 rfl).c F818 9 rfl).c F818 8 rfl).c F818 7 rfl).c F818 4 rfl).c F818 3 rfl).c F818 2 rfl).c F818 1 rfl).c F818 0 rfl), (((Ext.refl w600).trans hx807).trans hx816), b821, (by omega)⟩

end Go.Proofs.YtmjgjopbeokajaaDoor

namespace Go.Proofs.YtmjgjopbeokajaaDoor
open Go.RowKit

variable {S S' : Nat → Prop}

set_option maxRecDepth 100000 in
set_option maxHeartbeats 1000000 in
theorem short_any (xO xC xP : Option Addr) (xa xb xc : Nat) (x : Sg) (w : World) :
    Calls Tryd.prog 17 #[.agg #[(.int .i64 x.index), (.slice xO x.op.length xa), (.slice xC x.cl.length xb), (.slice xP x.path.length xc)]] w (fun e w' => e = .returned (.bool (decide ((((x.op.length : Nat) : Int) ≤ 100 ∧ ((x.cl.length : Nat) : Int) ≤ 100) ∧ ((x.path.length : Nat) : Int) ≤ 20))) ∧ Ext w w') := by
  refine calls_enter (l := [(.agg #[(.int .i64 x.index), (.slice xO x.op.length xa), (.slice xC x.cl.length xb), (.slice xP x.path.length xc)])]) Tryd.func17 rfl rfl rfl (fun aA hF => ?_)
  refine wp_seq_k (fun K1 hK1 => ?_)
  refine wp_region_lit ?_
  refine wpl_op (i := 0) rfl (o_new (fun g => (.pointer (some ⟨g, 0, none⟩))) [(.int .i64 x.index), (.slice xO x.op.length xa), (.slice xC x.cl.length xb), (.slice xP x.path.length xc)] 30 hF rfl rfl rfl rfl (rn_box (hF.get rfl) (by kernel_rfl)) ?_)
  intro g2 w3 a8 F9 z6 z7 b4 hx5; clear hF
  refine qv 1 (.bool false) F9 rfl (rn_assign rfl) fun _ F11 => ?_; clear F9
  refine wpList_nil ?_
  refine hK1 _ _ ?_
  clear hK1
  refine wp_seq_k (fun K12 hK12 => ?_)
  refine wp_region_lit ?_
  refine qv 0 (.pointer (some ⟨g2, 1, none⟩)) F11 rfl (rn_field Tryd.underlying30 rfl (by kernel_rfl) (F11.get rfl) rfl) fun _ F14 => ?_; clear F11
  refine qv 1 (.slice xO x.op.length xa) F14 rfl (rn_load (isAgg_no Tryd.underlying28 rfl) (F14.get rfl) (b4.rule.1 1)) fun _ F16 => ?_; clear F14
  refine qv 2 (.int .i64 (x.op.length : Nat)) F16 rfl (rn_len_slice Tryd.underlying28 (F16.get rfl)) fun _ F18 => ?_; clear F16
  refine qv 3 (.bool (decide (((x.op.length : Nat) : Int) ≤ (100 : Int)))) F18 rfl (rn_leq (F18.get rfl) rfl) fun _ F20 => ?_; clear F18
  refine qv 4 (.bool (decide (((x.op.length : Nat) : Int) ≤ (100 : Int)))) F20 rfl (rn_move (F20.get rfl)) fun _ F22 => ?_; clear F20
  by_cases hc23 : ((x.op.length : Nat) : Int) ≤ (100 : Int)
  · skip
    refine qg 5 (.pointer (some ⟨g2, 2, none⟩)) F22 (decide_eq_true hc23) (rn_field Tryd.underlying30 rfl (by kernel_rfl) (F22.get rfl) rfl) fun _ F25 => ?_; clear F22
    refine qg 6 (.slice xC x.cl.length xb) F25 (decide_eq_true hc23) (rn_load (isAgg_no Tryd.underlying28 rfl) (F25.get rfl) (b4.rule.1 2)) fun _ F27 => ?_; clear F25
    refine qg 7 (.int .i64 (x.cl.length : Nat)) F27 (decide_eq_true hc23) (rn_len_slice Tryd.underlying28 (F27.get rfl)) fun _ F29 => ?_; clear F27
    refine qg 8 (.bool (decide (((x.cl.length : Nat) : Int) ≤ (100 : Int)))) F29 (decide_eq_true hc23) (rn_leq (F29.get rfl) rfl) fun _ F31 => ?_; clear F29
    refine qv 9 (.bool (decide (((x.cl.length : Nat) : Int) ≤ (100 : Int)))) F31 rfl (rn_pickT (c_true F31 rfl (decide_eq_true hc23)) (F31.get rfl)) fun _ F33 => ?_; clear F31
    refine qv 10 (.bool (decide (((x.cl.length : Nat) : Int) ≤ (100 : Int)))) F33 rfl (rn_move (F33.get rfl)) fun _ F35 => ?_; clear F33
    by_cases hc36 : ((x.cl.length : Nat) : Int) ≤ (100 : Int)
    · skip
      refine qg 11 (.pointer (some ⟨g2, 3, none⟩)) F35 (decide_eq_true hc36) (rn_field Tryd.underlying30 rfl (by kernel_rfl) (F35.get rfl) rfl) fun _ F38 => ?_; clear F35
      refine qg 12 (.slice xP x.path.length xc) F38 (decide_eq_true hc36) (rn_load (isAgg_no Tryd.underlying28 rfl) (F38.get rfl) (b4.rule.1 3)) fun _ F40 => ?_; clear F38
      refine qg 13 (.int .i64 (x.path.length : Nat)) F40 (decide_eq_true hc36) (rn_len_slice Tryd.underlying28 (F40.get rfl)) fun _ F42 => ?_; clear F40
      refine qg 14 (.bool (decide (((x.path.length : Nat) : Int) ≤ (20 : Int)))) F42 (decide_eq_true hc36) (rn_leq (F42.get rfl) rfl) fun _ F44 => ?_; clear F42
      refine qv 15 (.bool (decide (((x.path.length : Nat) : Int) ≤ (20 : Int)))) F44 rfl (rn_pickT (c_true F44 rfl (decide_eq_true hc36)) (F44.get rfl)) fun _ F46 => ?_; clear F44
      refine qv 16 (.bool (decide (((x.path.length : Nat) : Int) ≤ (20 : Int)))) F46 rfl (rn_assign (F46.get rfl)) fun _ F48 => ?_; clear F46
      refine wpList_nil ?_
      refine hK12 _ _ ?_
      clear hK12
      have F49 := (((F48.nil.c F48 2 rfl).c F48 1 rfl).c F48 0 rfl)
      clear F48
      refine wp_ret ?_
      refine ret1 F49 rfl rfl ?_
      exact ⟨congrArg (fun b => Ending.returned (.bool b)) (show (decide (((x.path.length : Nat) : Int) ≤ (20 : Int))) = decide ((((x.op.length : Nat) : Int) ≤ 100 ∧ ((x.cl.length : Nat) : Int) ≤ 100) ∧ ((x.path.length : Nat) : Int) ≤ 20) from decide_eq_decide.2 ⟨fun h => by omega, fun h => by omega⟩), ((Ext.refl w).trans hx5)⟩
    · skip
      refine qu 11 F35 (decide_eq_false hc36) fun _ F51 => ?_; clear F35
      refine qu 12 F51 (decide_eq_false hc36) fun _ F53 => ?_; clear F51
      refine qu 13 F53 (decide_eq_false hc36) fun _ F55 => ?_; clear F53
      refine qu 14 F55 (decide_eq_false hc36) fun _ F57 => ?_; clear F55
      refine qv 15 (.bool false) F57 rfl (rn_pickF (c_false F57 rfl (decide_eq_false hc36)) rfl) fun _ F59 => ?_; clear F57
      refine qv 16 (.bool false) F59 rfl (rn_assign (F59.get rfl)) fun _ F61 => ?_; clear F59
      refine wpList_nil ?_
      refine hK12 _ _ ?_
      clear hK12
      have F62 := (((F61.nil.c F61 2 rfl).c F61 1 rfl).c F61 0 rfl)
      clear F61
      refine wp_ret ?_
      refine ret1 F62 rfl rfl ?_
      exact ⟨by rw [decide_eq_false (by omega)], ((Ext.refl w).trans hx5)⟩
  · skip
    refine qu 5 F22 (decide_eq_false hc23) fun _ F64 => ?_; clear F22
    refine qu 6 F64 (decide_eq_false hc23) fun _ F66 => ?_; clear F64
    refine qu 7 F66 (decide_eq_false hc23) fun _ F68 => ?_; clear F66
    refine qu 8 F68 (decide_eq_false hc23) fun _ F70 => ?_; clear F68
    refine qv 9 (.bool false) F70 rfl (rn_pickF (c_false F70 rfl (decide_eq_false hc23)) rfl) fun _ F72 => ?_; clear F70
    refine qv 10 (.bool false) F72 rfl (rn_move (F72.get rfl)) fun _ F74 => ?_; clear F72
    refine qu 11 F74 rfl fun _ F76 => ?_; clear F74
    refine qu 12 F76 rfl fun _ F78 => ?_; clear F76
    refine qu 13 F78 rfl fun _ F80 => ?_; clear F78
    refine qu 14 F80 rfl fun _ F82 => ?_; clear F80
    refine qv 15 (.bool false) F82 rfl (rn_pickF (c_false F82 rfl rfl) rfl) fun _ F84 => ?_; clear F82
    refine qv 16 (.bool false) F84 rfl (rn_assign (F84.get rfl)) fun _ F86 => ?_; clear F84
    refine wpList_nil ?_
    refine hK12 _ _ ?_
    clear hK12
    have F87 := (((F86.nil.c F86 2 rfl).c F86 1 rfl).c F86 0 rfl)
    clear F86
    refine wp_ret ?_
    refine ret1 F87 rfl rfl ?_
    exact ⟨by rw [decide_eq_false (by omega)], ((Ext.refl w).trans hx5)⟩

theorem verify_at {v u1 u2 u3 : Value} {m n1 n2 n3 : Nat} {S1 S2 S3 : Nat → Prop} (root : List UInt8) (n : Int) (msg : List UInt8) (sg : Sg) (w : World) (hd : root.length = 32) (hm : Fl S w 1 v m (byteVals msg)) (ho : Fl S1 w 32 u1 n1 (digVals sg.op)) (he : Fl S2 w 32 u2 n2 (digVals sg.cl)) (hp : Fl S3 w 32 u3 n3 (digVals sg.path)) (h32o : All32 sg.op) (h32c : All32 sg.cl) (h32p : All32 sg.path) (hG : Glob w) :
    Calls Tryd.prog 18 #[.agg (byteVals root).toArray, .int .i64 n, v, .agg #[.int .i64 sg.index, u1, u2, u3]] w (fun e w' => e = .returned (.bool (verifyF root n msg sg)) ∧ Ext w w') := by
  have h1 := hm.blen
  have h2 := Fl.dlen ho h32o
  have h3 := Fl.dlen he h32c
  have h4 := Fl.dlen hp h32p
  subst h1 h2 h3 h4
  obtain ⟨B, cb, rfl, _⟩ := hm.form
  obtain ⟨O, oc, rfl, _⟩ := ho.form
  obtain ⟨C, ec, rfl, _⟩ := he.form
  obtain ⟨P, pc, rfl, _⟩ := hp.form
  exact verify_any (S := fun _ => True) root n B cb msg sg.index O oc sg.op C ec sg.cl P pc sg.path w hd (hm.sub fun _ _ => trivial) (ho.sub fun _ _ => trivial) (he.sub fun _ _ => trivial) (hp.sub fun _ _ => trivial) h32o h32c h32p hG

end Go.Proofs.YtmjgjopbeokajaaDoor

namespace Go.Proofs.YtmjgjopbeokajaaDoor
open Go.RowKit

variable {sd : List UInt8} {many used idx : Int} {msg other : List UInt8}
theorem signF_o (sd : List UInt8) (many used idx : Int) (msg : List UInt8) : All32 (signF sd many used idx msg).op := by
  unfold signF; split
  · exact opTo_32 _ _ _ _
  · exact All32.nil
theorem signF_c (sd : List UInt8) (many used idx : Int) (msg : List UInt8) : All32 (signF sd many used idx msg).cl := by
  unfold signF; split
  · exact clTo_32 _ _ _ _
  · exact All32.nil
theorem signF_p (sd : List UInt8) (many used idx : Int) (msg : List UInt8) : All32 (signF sd many used idx msg).path := by
  unfold signF; split
  · exact pathD_32 _ _ _ (Nat.le_refl _)
  · exact All32.nil
end Go.Proofs.YtmjgjopbeokajaaDoor
