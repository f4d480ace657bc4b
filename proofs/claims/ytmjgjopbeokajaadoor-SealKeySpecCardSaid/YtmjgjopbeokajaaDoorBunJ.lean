/- Several texts in one: SealJ, SealK, SealL, SealM. -/
import Derived.Test.YtmjgjopbeokajaaDoorProg
import Derived.Test.YtmjgjopbeokajaaDoorBunI
import Derived.KernelRfl
import Derived.Test.YtmjgjopbeokajaaDoorBunA
import Derived.Test.YtmjgjopbeokajaaDoorBunB
namespace Go.Proofs.YtmjgjopbeokajaaDoor
open Go.RowKit

variable {S S' : Nat → Prop}

theorem shown_len {bs : List Bool} {s : Sg} {j : Nat} {b : Bool} (ho : All32 s.op) (hc : All32 s.cl) (h1 : j < s.op.length) (h2 : j < s.cl.length) : (shown bs s j b).length = 32 := by
  unfold shown
  split
  · exact openD_len _
  · exact dig_len hc j h2
set_option maxRecDepth 100000 in
set_option maxHeartbeats 1000000 in
theorem shown_any (j : Nat) (b : Bool) (gb gs : Nat) (bs : List Bool) (idx : Int) (O : Option Addr) (oc : Nat) (op : List (List UInt8)) (C : Option Addr) (ec : Nat) (cl pa : List (List UInt8)) (pv : Value) (w : World) (hb : Blk w gb 60 (boolVals bs)) (hs : Blk w gs 30 [.int .i64 idx, .slice O op.length oc, .slice C cl.length ec, pv]) (ho : Fl S w 32 (.slice O op.length oc) op.length (digVals op)) (he : Fl S w 32 (.slice C cl.length ec) cl.length (digVals cl)) (h32o : All32 op) (h32c : All32 cl) (hG : Glob w) (hbs : bs.length = 64) (hj : j < 64) (h1 : op.length = 64) (h2 : cl.length = 64) :
    Calls Tryd.prog 42 #[.int .i64 (j : Nat), .bool b, .pointer (some ⟨gb, 0, none⟩), .pointer (some ⟨gs, 0, none⟩)] w (fun e w' => e = .returned (.agg (byteVals (shown bs ⟨idx, op, cl, pa⟩ j b)).toArray) ∧ Ext w w') := by
  have hco : Fl (Clip S w) w 32 (.slice O op.length oc) op.length (digVals op) := ho.clip
  have hcoc := (Fl.cel hco).2.1
  have hce : Fl (Clip S w) w 32 (.slice C cl.length ec) cl.length (digVals cl) := he.clip
  have hcec := (Fl.cel hce).2.1
  have hgb := hb.lt
  have hgs := hs.lt
  refine calls_enter (l := [(.int .i64 (j : Nat)), (.bool b), (.pointer (some ⟨gb, 0, none⟩)), (.pointer (some ⟨gs, 0, none⟩))]) Tryd.func42 rfl rfl rfl (fun aA hF => ?_)
  refine wp_seq_k (fun K1 hK1 => ?_)
  refine wp_region_lit ?_
  refine wpl_op (i := 0) rfl (o_new (fun g => (.pointer (some ⟨g, 0, none⟩))) (byteVals (List.replicate 32 0)) 37 hF rfl rfl rfl rfl (by kernel_rfl) ?_)
  intro g2 w3 a8 F9 z6 z7 b4 hx5; clear hF
  refine wpList_nil ?_
  refine hK1 _ _ ?_
  clear hK1
  refine wp_seq_k (fun K10 hK10 => ?_)
  refine wp_seq_k (fun K11 hK11 => ?_)
  refine wp_region_lit ?_
  refine qv 0 (.int .i64 (j : Nat)) F9 rfl (rn_move (F9.get rfl)) fun _ F13 => ?_; clear F9
  refine qv 1 (.pointer (some ⟨gb, 0 + j, none⟩)) F13 rfl (rn_indexArr Tryd.underlying60 inf4 (F13.get rfl) (F13.get rfl) (by omega : (0 : Int) ≤ (j : Nat)) (by omega : ((j : Nat) : Int) < ((64 : Nat) : Int))) fun _ F15 => ?_; clear F13
  have b16 := (hb.ext hx5)
  refine qv 2 (.bool (bs.getD j false)) F15 rfl (rn_load (isAgg_no Tryd.underlying4 rfl) (F15.get rfl) (blk_boolVals b16 (by omega) (by have := (show List.length bs = _ from hbs); omega))) fun _ F18 => ?_; clear F15
  refine qv 3 (.bool b) F18 rfl (rn_move (F18.get rfl)) fun _ F20 => ?_; clear F18
  rcases Bool.eq_false_or_eq_true (bs.getD j false) with hc21 | hc21
  · skip
    rcases Bool.eq_false_or_eq_true b with hc22 | hc22
    · skip
      refine qv 4 (.bool true) F20 rfl (rn_eqB Tryd.underlying4 (F20.get rfl) (F20.get rfl) (show _ = true from hc21) (show _ = true from hc22) rfl) fun _ F24 => ?_; clear F20
      refine wpList_nil ?_
      refine hK11 _ _ ?_
      clear hK11
      have F25 := ((((((F24.nil.c F24 11 rfl).c F24 6 rfl).c F24 3 rfl).c F24 2 rfl).c F24 1 rfl).c F24 0 rfl)
      clear F24
      refine wp_cond_true (c_true F25 rfl rfl) ?_
      refine wp_seq_k (fun K26 hK26 => ?_)
      refine wp_region_lit ?_
      refine qv 0 (.pointer (some ⟨gs, 1, none⟩)) F25 rfl (rn_field Tryd.underlying30 rfl (by kernel_rfl) (F25.get rfl) rfl) fun _ F28 => ?_; clear F25
      have b29 := (hs.ext hx5)
      refine qv 1 (.slice O op.length oc) F28 rfl (rn_load (isAgg_no Tryd.underlying28 rfl) (F28.get rfl) (b29.rule.1 1)) fun _ F31 => ?_; clear F28
      refine qv 2 (.int .i64 (j : Nat)) F31 rfl (rn_move (F31.get rfl)) fun _ F33 => ?_; clear F31
      have d37 := (hco.ext hx5)
      obtain ⟨b34, o35, hA36, -⟩ := Fl.at d37 (by omega)
      refine qv 3 (.pointer (some ⟨b34, o35 + j * 32, none⟩)) F33 rfl (rn_indexE Tryd.underlying28 inf37 ((F33.get rfl).trans (by rw [hA36])) (F33.get rfl) (by omega : (0 : Int) ≤ (j : Nat)) (by omega : ((j : Nat) : Int) < ((op.length : Nat) : Int)) (by omega)) fun _ F39 => ?_; clear F33
      refine qv 4 (.agg (byteVals (op.getD j [])).toArray) F39 rfl (rn_loadN (cs := byteVals (op.getD j [])) (F39.get rfl) Tryd.underlying37 rfl (inf37.trans (congrArg some (byteVals_len (dig_len h32o j (by omega))).symm)) (Fl.digAt d37 hA36 h32o (by omega))) fun _ F41 => ?_; clear F39
      refine wpl_op (i := 5) rfl (o_call F41 rfl rfl rfl rfl (rn_call (args1 (F41.get rfl)) rfl (by kernel_rfl)) (open_any (op.getD j []) _ (dig_len h32o j (by omega)) (hG.ext ((Ext.refl w).trans hx5))) ?_)
      rintro _ w42 ⟨rfl, hx43⟩
      refine ⟨_, rfl, ?_⟩; intro a44 F45; clear F41; have z46 := hx43.size
      have b50 := (b4.ext hx43)
      refine wpl_op (i := 6) rfl (o_store (cells := (byteVals (openD (op.getD j [])))) F45 rfl rfl rfl rfl (F45.get rfl) (F45.get rfl) b50 (inf37.trans (congrArg some (byteVals_len (openD_len _)).symm)) ((byteVals_len (show List.length (List.replicate 32 0) = _ from List.length_replicate)).trans (byteVals_len (openD_len _)).symm) (byteVals_one _) ?_)
      intro w47 b48 hg49; have z51 := hg49.size
      refine wpList_nil ?_
      refine hK26 _ _ ?_
      clear hK26
      have F52 := ((((((F45.nil.c F45 11 rfl).c F45 6 rfl).c F45 3 rfl).c F45 2 rfl).c F45 1 rfl).c F45 0 rfl)
      clear F45
      refine wp_ret ?_
      refine ret_then ?_
      refine retC F52 rfl rfl b48 Tryd.underlying37 rfl (inf37.trans (congrArg some (byteVals_len (openD_len _)).symm)) ?_
      exact ⟨by rw [shown, if_pos (hc21.trans hc22.symm)], ((((Ext.refl w).trans hx5).trans hx43).grownN hg49 (by omega))⟩
    · skip
      refine qv 4 (.bool false) F20 rfl (rn_eqB Tryd.underlying4 (F20.get rfl) (F20.get rfl) (show _ = true from hc21) (show _ = false from hc22) rfl) fun _ F54 => ?_; clear F20
      refine wpList_nil ?_
      refine hK11 _ _ ?_
      clear hK11
      have F55 := ((((((F54.nil.c F54 11 rfl).c F54 6 rfl).c F54 3 rfl).c F54 2 rfl).c F54 1 rfl).c F54 0 rfl)
      clear F54
      refine wp_cond_false (c_false F55 rfl rfl) ?_
      refine wp_skip ?_
      refine hK10 _ _ ?_
      clear hK10
      refine wp_seq_k (fun K56 hK56 => ?_)
      refine wp_region_lit ?_
      refine qv 0 (.pointer (some ⟨gs, 2, none⟩)) F55 rfl (rn_field Tryd.underlying30 rfl (by kernel_rfl) (F55.get rfl) rfl) fun _ F58 => ?_; clear F55
      have b59 := (hs.ext hx5)
      refine qv 1 (.slice C cl.length ec) F58 rfl (rn_load (isAgg_no Tryd.underlying28 rfl) (F58.get rfl) (b59.rule.1 2)) fun _ F61 => ?_; clear F58
      refine qv 2 (.int .i64 (j : Nat)) F61 rfl (rn_move (F61.get rfl)) fun _ F63 => ?_; clear F61
      have d67 := (hce.ext hx5)
      obtain ⟨b64, o65, hA66, -⟩ := Fl.at d67 (by omega)
      refine qv 3 (.pointer (some ⟨b64, o65 + j * 32, none⟩)) F63 rfl (rn_indexE Tryd.underlying28 inf37 ((F63.get rfl).trans (by rw [hA66])) (F63.get rfl) (by omega : (0 : Int) ≤ (j : Nat)) (by omega : ((j : Nat) : Int) < ((cl.length : Nat) : Int)) (by omega)) fun _ F69 => ?_; clear F63
      refine qv 4 (.agg (byteVals (cl.getD j [])).toArray) F69 rfl (rn_loadN (cs := byteVals (cl.getD j [])) (F69.get rfl) Tryd.underlying37 rfl (inf37.trans (congrArg some (byteVals_len (dig_len h32c j (by omega))).symm)) (Fl.digAt d67 hA66 h32c (by omega))) fun _ F71 => ?_; clear F69
      refine wpl_op (i := 5) rfl (o_store (cells := (byteVals (cl.getD j []))) F71 rfl rfl rfl rfl (F71.get rfl) (F71.get rfl) b4 (inf37.trans (congrArg some (byteVals_len (dig_len h32c j (by omega))).symm)) ((byteVals_len (show List.length (List.replicate 32 0) = _ from List.length_replicate)).trans (byteVals_len (dig_len h32c j (by omega))).symm) (byteVals_one _) ?_)
      intro w72 b73 hg74; have z75 := hg74.size
      refine wpList_nil ?_
      refine hK56 _ _ ?_
      clear hK56
      have F76 := ((((((F71.nil.c F71 11 rfl).c F71 6 rfl).c F71 3 rfl).c F71 2 rfl).c F71 1 rfl).c F71 0 rfl)
      clear F71
      refine wp_ret ?_
      refine retC F76 rfl rfl b73 Tryd.underlying37 rfl (inf37.trans (congrArg some (byteVals_len (dig_len h32c j (by omega))).symm)) ?_
      exact ⟨by rw [shown, if_neg (by rw [hc21, hc22]; decide)], (((Ext.refl w).trans hx5).grownN hg74 (by omega))⟩
  · skip
    rcases Bool.eq_false_or_eq_true b with hc77 | hc77
    · skip
      refine qv 4 (.bool false) F20 rfl (rn_eqB Tryd.underlying4 (F20.get rfl) (F20.get rfl) (show _ = false from hc21) (show _ = true from hc77) rfl) fun _ F79 => ?_; clear F20
      refine wpList_nil ?_
      refine hK11 _ _ ?_
      clear hK11
      have F80 := ((((((F79.nil.c F79 11 rfl).c F79 6 rfl).c F79 3 rfl).c F79 2 rfl).c F79 1 rfl).c F79 0 rfl)
      clear F79
      refine wp_cond_false (c_false F80 rfl rfl) ?_
      refine wp_skip ?_
      refine hK10 _ _ ?_
      clear hK10
      refine wp_seq_k (fun K81 hK81 => ?_)
      refine wp_region_lit ?_
      refine qv 0 (.pointer (some ⟨gs, 2, none⟩)) F80 rfl (rn_field Tryd.underlying30 rfl (by kernel_rfl) (F80.get rfl) rfl) fun _ F83 => ?_; clear F80
      have b84 := (hs.ext hx5)
      refine qv 1 (.slice C cl.length ec) F83 rfl (rn_load (isAgg_no Tryd.underlying28 rfl) (F83.get rfl) (b84.rule.1 2)) fun _ F86 => ?_; clear F83
      refine qv 2 (.int .i64 (j : Nat)) F86 rfl (rn_move (F86.get rfl)) fun _ F88 => ?_; clear F86
      have d92 := (hce.ext hx5)
      obtain ⟨b89, o90, hA91, -⟩ := Fl.at d92 (by omega)
      refine qv 3 (.pointer (some ⟨b89, o90 + j * 32, none⟩)) F88 rfl (rn_indexE Tryd.underlying28 inf37 ((F88.get rfl).trans (by rw [hA91])) (F88.get rfl) (by omega : (0 : Int) ≤ (j : Nat)) (by omega : ((j : Nat) : Int) < ((cl.length : Nat) : Int)) (by omega)) fun _ F94 => ?_; clear F88
      refine qv 4 (.agg (byteVals (cl.getD j [])).toArray) F94 rfl (rn_loadN (cs := byteVals (cl.getD j [])) (F94.get rfl) Tryd.underlying37 rfl (inf37.trans (congrArg some (byteVals_len (dig_len h32c j (by omega))).symm)) (Fl.digAt d92 hA91 h32c (by omega))) fun _ F96 => ?_; clear F94
      refine wpl_op (i := 5) rfl (o_store (cells := (byteVals (cl.getD j []))) F96 rfl rfl rfl rfl (F96.get rfl) (F96.get rfl) b4 (inf37.trans (congrArg some (byteVals_len (dig_len h32c j (by omega))).symm)) ((byteVals_len (show List.length (List.replicate 32 0) = _ from List.length_replicate)).trans (byteVals_len (dig_len h32c j (by omega))).symm) (byteVals_one _) ?_)
      intro w97 b98 hg99; have z100 := hg99.size
      refine wpList_nil ?_
      refine hK81 _ _ ?_
      clear hK81
      have F101 := ((((((F96.nil.c F96 11 rfl).c F96 6 rfl).c F96 3 rfl).c F96 2 rfl).c F96 1 rfl).c F96 0 rfl)
      clear F96
      refine wp_ret ?_
      refine retC F101 rfl rfl b98 Tryd.underlying37 rfl (inf37.trans (congrArg some (byteVals_len (dig_len h32c j (by omega))).symm)) ?_
      exact ⟨by rw [shown, if_neg (by rw [hc21, hc77]; decide)], (((Ext.refl w).trans hx5).grownN hg99 (by omega))⟩
    · skip
      refine qv 4 (.bool true) F20 rfl (rn_eqB Tryd.underlying4 (F20.get rfl) (F20.get rfl) (show _ = false from hc21) (show _ = false from hc77) rfl) fun _ F103 => ?_; clear F20
      refine wpList_nil ?_
      refine hK11 _ _ ?_
      clear hK11
      have F104 := ((((((F103.nil.c F103 11 rfl).c F103 6 rfl).c F103 3 rfl).c F103 2 rfl).c F103 1 rfl).c F103 0 rfl)
      clear F103
      refine wp_cond_true (c_true F104 rfl rfl) ?_
      refine wp_seq_k (fun K105 hK105 => ?_)
      refine wp_region_lit ?_
      refine qv 0 (.pointer (some ⟨gs, 1, none⟩)) F104 rfl (rn_field Tryd.underlying30 rfl (by kernel_rfl) (F104.get rfl) rfl) fun _ F107 => ?_; clear F104
      have b108 := (hs.ext hx5)
      refine qv 1 (.slice O op.length oc) F107 rfl (rn_load (isAgg_no Tryd.underlying28 rfl) (F107.get rfl) (b108.rule.1 1)) fun _ F110 => ?_; clear F107
      refine qv 2 (.int .i64 (j : Nat)) F110 rfl (rn_move (F110.get rfl)) fun _ F112 => ?_; clear F110
      have d116 := (hco.ext hx5)
      obtain ⟨b113, o114, hA115, -⟩ := Fl.at d116 (by omega)
      refine qv 3 (.pointer (some ⟨b113, o114 + j * 32, none⟩)) F112 rfl (rn_indexE Tryd.underlying28 inf37 ((F112.get rfl).trans (by rw [hA115])) (F112.get rfl) (by omega : (0 : Int) ≤ (j : Nat)) (by omega : ((j : Nat) : Int) < ((op.length : Nat) : Int)) (by omega)) fun _ F118 => ?_; clear F112
      refine qv 4 (.agg (byteVals (op.getD j [])).toArray) F118 rfl (rn_loadN (cs := byteVals (op.getD j [])) (F118.get rfl) Tryd.underlying37 rfl (inf37.trans (congrArg some (byteVals_len (dig_len h32o j (by omega))).symm)) (Fl.digAt d116 hA115 h32o (by omega))) fun _ F120 => ?_; clear F118
      refine wpl_op (i := 5) rfl (o_call F120 rfl rfl rfl rfl (rn_call (args1 (F120.get rfl)) rfl (by kernel_rfl)) (open_any (op.getD j []) _ (dig_len h32o j (by omega)) (hG.ext ((Ext.refl w).trans hx5))) ?_)
      rintro _ w121 ⟨rfl, hx122⟩
      refine ⟨_, rfl, ?_⟩; intro a123 F124; clear F120; have z125 := hx122.size
      have b129 := (b4.ext hx122)
      refine wpl_op (i := 6) rfl (o_store (cells := (byteVals (openD (op.getD j [])))) F124 rfl rfl rfl rfl (F124.get rfl) (F124.get rfl) b129 (inf37.trans (congrArg some (byteVals_len (openD_len _)).symm)) ((byteVals_len (show List.length (List.replicate 32 0) = _ from List.length_replicate)).trans (byteVals_len (openD_len _)).symm) (byteVals_one _) ?_)
      intro w126 b127 hg128; have z130 := hg128.size
      refine wpList_nil ?_
      refine hK105 _ _ ?_
      clear hK105
      have F131 := ((((((F124.nil.c F124 11 rfl).c F124 6 rfl).c F124 3 rfl).c F124 2 rfl).c F124 1 rfl).c F124 0 rfl)
      clear F124
      refine wp_ret ?_
      refine ret_then ?_
      refine retC F131 rfl rfl b127 Tryd.underlying37 rfl (inf37.trans (congrArg some (byteVals_len (openD_len _)).symm)) ?_
      exact ⟨by rw [shown, if_pos (hc21.trans hc77.symm)], ((((Ext.refl w).trans hx5).trans hx122).grownN hg128 (by omega))⟩

set_option maxRecDepth 100000 in
set_option maxHeartbeats 1000000 in
theorem verify_any (root : List UInt8) (n : Int) (B : Option Addr) (cb : Nat) (msg : List UInt8) (idx : Int) (O : Option Addr) (oc : Nat) (op : List (List UInt8)) (C : Option Addr) (ec : Nat) (cl : List (List UInt8)) (P : Option Addr) (pc : Nat) (pa : List (List UInt8)) (w : World) (hd : root.length = 32) (hm : Fl S w 1 (.slice B msg.length cb) msg.length (byteVals msg)) (ho : Fl S w 32 (.slice O op.length oc) op.length (digVals op)) (he : Fl S w 32 (.slice C cl.length ec) cl.length (digVals cl)) (hp : Fl S w 32 (.slice P pa.length pc) pa.length (digVals pa)) (h32o : All32 op) (h32c : All32 cl) (h32p : All32 pa) (hG : Glob w) :
    Calls Tryd.prog 18 #[.agg (byteVals root).toArray, .int .i64 n, .slice B msg.length cb, .agg #[.int .i64 idx, .slice O op.length oc, .slice C cl.length ec, .slice P pa.length pc]] w (fun e w' => e = .returned (.bool (verifyF root n msg ⟨idx, op, cl, pa⟩)) ∧ Ext w w') := by
  have hb : Fl (Clip S w) w 1 (.slice B msg.length cb) msg.length (byteVals msg) := hm.clip
  have hbc := (Fl.cel hb).2.1
  have hco : Fl (Clip S w) w 32 (.slice O op.length oc) op.length (digVals op) := ho.clip
  have hcoc := (Fl.cel hco).2.1
  have hce : Fl (Clip S w) w 32 (.slice C cl.length ec) cl.length (digVals cl) := he.clip
  have hcec := (Fl.cel hce).2.1
  have hcp : Fl (Clip S w) w 32 (.slice P pa.length pc) pa.length (digVals pa) := hp.clip
  have hcpc := (Fl.cel hcp).2.1
  refine calls_enter (l := [(.agg (byteVals root).toArray), (.int .i64 n), (.slice B msg.length cb), (.agg #[(.int .i64 idx), (.slice O op.length oc), (.slice C cl.length ec), (.slice P pa.length pc)])]) Tryd.func18 rfl rfl rfl (fun aA hF => ?_)
  refine wp_seq_k (fun K1 hK1 => ?_)
  refine wp_region_lit ?_
  refine wpl_op (i := 0) rfl (o_new (fun g => (.pointer (some ⟨g, 0, none⟩))) (byteVals root) 37 hF rfl rfl rfl rfl (rn_box (hF.get rfl) (box_arr _)) ?_)
  intro g2 w3 a8 F9 z6 z7 b4 hx5; clear hF
  refine wpl_op (i := 1) rfl (o_new (fun g => (.pointer (some ⟨g, 0, none⟩))) [(.int .i64 idx), (.slice O op.length oc), (.slice C cl.length ec), (.slice P pa.length pc)] 30 F9 rfl rfl rfl rfl (rn_box (F9.get rfl) (by kernel_rfl)) ?_)
  intro g10 w11 a16 F17 z14 z15 b12 hx13; clear F9
  refine qv 2 (.bool false) F17 rfl (rn_assign rfl) fun _ F19 => ?_; clear F17
  refine wpList_nil ?_
  refine hK1 _ _ ?_
  clear hK1
  refine wp_seq_k (fun K20 hK20 => ?_)
  refine wp_seq_k (fun K21 hK21 => ?_)
  refine wp_region_lit ?_
  refine qv 0 (.int .i64 n) F19 rfl (rn_move (F19.get rfl)) fun _ F23 => ?_; clear F19
  refine qv 1 (.bool (decide ((n : Int) < (1 : Int)))) F23 rfl (rn_lss (F23.get rfl) rfl) fun _ F25 => ?_; clear F23
  refine qv 2 (.bool (decide ((n : Int) < (1 : Int)))) F25 rfl (rn_move (F25.get rfl)) fun _ F27 => ?_; clear F25
  by_cases hc28 : (n : Int) < (1 : Int)
  · skip
    refine qu 3 F27 (decide_eq_true hc28) fun _ F30 => ?_; clear F27
    refine qu 4 F30 (decide_eq_true hc28) fun _ F32 => ?_; clear F30
    refine qv 5 (.bool true) F32 rfl (rn_pickT (c_true F32 rfl (decide_eq_true hc28)) rfl) fun _ F34 => ?_; clear F32
    refine qv 6 (.bool true) F34 rfl (rn_move (F34.get rfl)) fun _ F36 => ?_; clear F34
    refine qu 7 F36 rfl fun _ F38 => ?_; clear F36
    refine qu 8 F38 rfl fun _ F40 => ?_; clear F38
    refine qu 9 F40 rfl fun _ F42 => ?_; clear F40
    refine qv 10 (.bool true) F42 rfl (rn_pickT (c_true F42 rfl rfl) rfl) fun _ F44 => ?_; clear F42
    refine qv 11 (.bool true) F44 rfl (rn_move (F44.get rfl)) fun _ F46 => ?_; clear F44
    refine qu 12 F46 rfl fun _ F48 => ?_; clear F46
    refine qu 13 F48 rfl fun _ F50 => ?_; clear F48
    refine qu 14 F50 rfl fun _ F52 => ?_; clear F50
    refine qu 15 F52 rfl fun _ F54 => ?_; clear F52
    refine qv 16 (.bool true) F54 rfl (rn_pickT (c_true F54 rfl rfl) rfl) fun _ F56 => ?_; clear F54
    refine qv 17 (.bool true) F56 rfl (rn_move (F56.get rfl)) fun _ F58 => ?_; clear F56
    refine qu 18 F58 rfl fun _ F60 => ?_; clear F58
    refine qu 19 F60 rfl fun _ F62 => ?_; clear F60
    refine qu 20 F62 rfl fun _ F64 => ?_; clear F62
    refine qu 21 F64 rfl fun _ F66 => ?_; clear F64
    refine qv 22 (.bool true) F66 rfl (rn_pickT (c_true F66 rfl rfl) rfl) fun _ F68 => ?_; clear F66
    refine qv 23 (.bool true) F68 rfl (rn_move (F68.get rfl)) fun _ F70 => ?_; clear F68
    refine qu 24 F70 rfl fun _ F72 => ?_; clear F70
    refine qu 25 F72 rfl fun _ F74 => ?_; clear F72
    refine qu 26 F74 rfl fun _ F76 => ?_; clear F74
    refine qu 27 F76 rfl fun _ F78 => ?_; clear F76
    refine qv 28 (.bool true) F78 rfl (rn_pickT (c_true F78 rfl rfl) rfl) fun _ F80 => ?_; clear F78
    refine qv 29 (.bool true) F80 rfl (rn_move (F80.get rfl)) fun _ F82 => ?_; clear F80
    refine qu 30 F82 rfl fun _ F84 => ?_; clear F82
    refine qu 31 F84 rfl fun _ F86 => ?_; clear F84
    refine qu 32 F86 rfl fun _ F88 => ?_; clear F86
    refine qv 33 (.bool true) F88 rfl (rn_pickT (c_true F88 rfl rfl) rfl) fun _ F90 => ?_; clear F88
    refine wpList_nil ?_
    refine hK21 _ _ ?_
    clear hK21
    have F91 := ((((((((F90.nil.c F90 46 rfl).c F90 8 rfl).c F90 7 rfl).c F90 4 rfl).c F90 3 rfl).c F90 2 rfl).c F90 1 rfl).c F90 0 rfl)
    clear F90
    refine wp_cond_true (c_true F91 rfl rfl) ?_
    refine wp_seq_k (fun K92 hK92 => ?_)
    refine wp_region_lit ?_
    refine qv 0 (.bool false) F91 rfl (rn_assign rfl) fun _ F94 => ?_; clear F91
    refine wpList_nil ?_
    refine hK92 _ _ ?_
    clear hK92
    refine wp_ret ?_
    refine ret_then ?_
    refine ret1 F94 rfl rfl ?_
    exact ⟨by rw [verify_not (s := ⟨idx, op, cl, pa⟩) (by unfold vShape; simp only; omega)], (((Ext.refl w).trans hx5).trans hx13)⟩
  · skip
    refine qg 3 (.int .i64 n) F27 (decide_eq_false hc28) (rn_move (F27.get rfl)) fun _ F96 => ?_; clear F27
    refine qg 4 (.bool (decide ((4096 : Int) < (n : Int)))) F96 (decide_eq_false hc28) (rn_gtr (F96.get rfl) rfl) fun _ F98 => ?_; clear F96
    refine qv 5 (.bool (decide ((4096 : Int) < (n : Int)))) F98 rfl (rn_pickF (c_false F98 rfl (decide_eq_false hc28)) (F98.get rfl)) fun _ F100 => ?_; clear F98
    refine qv 6 (.bool (decide ((4096 : Int) < (n : Int)))) F100 rfl (rn_move (F100.get rfl)) fun _ F102 => ?_; clear F100
    by_cases hc103 : (4096 : Int) < (n : Int)
    · skip
      refine qu 7 F102 (decide_eq_true hc103) fun _ F105 => ?_; clear F102
      refine qu 8 F105 (decide_eq_true hc103) fun _ F107 => ?_; clear F105
      refine qu 9 F107 (decide_eq_true hc103) fun _ F109 => ?_; clear F107
      refine qv 10 (.bool true) F109 rfl (rn_pickT (c_true F109 rfl (decide_eq_true hc103)) rfl) fun _ F111 => ?_; clear F109
      refine qv 11 (.bool true) F111 rfl (rn_move (F111.get rfl)) fun _ F113 => ?_; clear F111
      refine qu 12 F113 rfl fun _ F115 => ?_; clear F113
      refine qu 13 F115 rfl fun _ F117 => ?_; clear F115
      refine qu 14 F117 rfl fun _ F119 => ?_; clear F117
      refine qu 15 F119 rfl fun _ F121 => ?_; clear F119
      refine qv 16 (.bool true) F121 rfl (rn_pickT (c_true F121 rfl rfl) rfl) fun _ F123 => ?_; clear F121
      refine qv 17 (.bool true) F123 rfl (rn_move (F123.get rfl)) fun _ F125 => ?_; clear F123
      refine qu 18 F125 rfl fun _ F127 => ?_; clear F125
      refine qu 19 F127 rfl fun _ F129 => ?_; clear F127
      refine qu 20 F129 rfl fun _ F131 => ?_; clear F129
      refine qu 21 F131 rfl fun _ F133 => ?_; clear F131
      refine qv 22 (.bool true) F133 rfl (rn_pickT (c_true F133 rfl rfl) rfl) fun _ F135 => ?_; clear F133
      refine qv 23 (.bool true) F135 rfl (rn_move (F135.get rfl)) fun _ F137 => ?_; clear F135
      refine qu 24 F137 rfl fun _ F139 => ?_; clear F137
      refine qu 25 F139 rfl fun _ F141 => ?_; clear F139
      refine qu 26 F141 rfl fun _ F143 => ?_; clear F141
      refine qu 27 F143 rfl fun _ F145 => ?_; clear F143
      refine qv 28 (.bool true) F145 rfl (rn_pickT (c_true F145 rfl rfl) rfl) fun _ F147 => ?_; clear F145
      refine qv 29 (.bool true) F147 rfl (rn_move (F147.get rfl)) fun _ F149 => ?_; clear F147
      refine qu 30 F149 rfl fun _ F151 => ?_; clear F149
      refine qu 31 F151 rfl fun _ F153 => ?_; clear F151
      refine qu 32 F153 rfl fun _ F155 => ?_; clear F153
      refine qv 33 (.bool true) F155 rfl (rn_pickT (c_true F155 rfl rfl) rfl) fun _ F157 => ?_; clear F155
      refine wpList_nil ?_
      refine hK21 _ _ ?_
      clear hK21
      have F158 := ((((((((F157.nil.c F157 46 rfl).c F157 8 rfl).c F157 7 rfl).c F157 4 rfl).c F157 3 rfl).c F157 2 rfl).c F157 1 rfl).c F157 0 rfl)
      clear F157
      refine wp_cond_true (c_true F158 rfl rfl) ?_
      refine wp_seq_k (fun K159 hK159 => ?_)
      refine wp_region_lit ?_
      refine qv 0 (.bool false) F158 rfl (rn_assign rfl) fun _ F161 => ?_; clear F158
      refine wpList_nil ?_
      refine hK159 _ _ ?_
      clear hK159
      refine wp_ret ?_
      refine ret_then ?_
      refine ret1 F161 rfl rfl ?_
      exact ⟨by rw [verify_not (s := ⟨idx, op, cl, pa⟩) (by unfold vShape; simp only; omega)], (((Ext.refl w).trans hx5).trans hx13)⟩
    · skip
      refine qg 7 (.pointer (some ⟨g10, 0, none⟩)) F102 (decide_eq_false hc103) (rn_field Tryd.underlying30 rfl (by kernel_rfl) (F102.get rfl) rfl) fun _ F163 => ?_; clear F102
      refine qg 8 (.int .i64 idx) F163 (decide_eq_false hc103) (rn_load (isAgg_no Tryd.underlying3 rfl) (F163.get rfl) (b12.rule.1 0)) fun _ F165 => ?_; clear F163
      refine qg 9 (.bool (decide ((idx : Int) < (0 : Int)))) F165 (decide_eq_false hc103) (rn_lss (F165.get rfl) rfl) fun _ F167 => ?_; clear F165
      refine qv 10 (.bool (decide ((idx : Int) < (0 : Int)))) F167 rfl (rn_pickF (c_false F167 rfl (decide_eq_false hc103)) (F167.get rfl)) fun _ F169 => ?_; clear F167
      refine qv 11 (.bool (decide ((idx : Int) < (0 : Int)))) F169 rfl (rn_move (F169.get rfl)) fun _ F171 => ?_; clear F169
      by_cases hc172 : (idx : Int) < (0 : Int)
      · skip
        refine qu 12 F171 (decide_eq_true hc172) fun _ F174 => ?_; clear F171
        refine qu 13 F174 (decide_eq_true hc172) fun _ F176 => ?_; clear F174
        refine qu 14 F176 (decide_eq_true hc172) fun _ F178 => ?_; clear F176
        refine qu 15 F178 (decide_eq_true hc172) fun _ F180 => ?_; clear F178
        refine qv 16 (.bool true) F180 rfl (rn_pickT (c_true F180 rfl (decide_eq_true hc172)) rfl) fun _ F182 => ?_; clear F180
        refine qv 17 (.bool true) F182 rfl (rn_move (F182.get rfl)) fun _ F184 => ?_; clear F182
        refine qu 18 F184 rfl fun _ F186 => ?_; clear F184
        refine qu 19 F186 rfl fun _ F188 => ?_; clear F186
        refine qu 20 F188 rfl fun _ F190 => ?_; clear F188
        refine qu 21 F190 rfl fun _ F192 => ?_; clear F190
        refine qv 22 (.bool true) F192 rfl (rn_pickT (c_true F192 rfl rfl) rfl) fun _ F194 => ?_; clear F192
        refine qv 23 (.bool true) F194 rfl (rn_move (F194.get rfl)) fun _ F196 => ?_; clear F194
        refine qu 24 F196 rfl fun _ F198 => ?_; clear F196
        refine qu 25 F198 rfl fun _ F200 => ?_; clear F198
        refine qu 26 F200 rfl fun _ F202 => ?_; clear F200
        refine qu 27 F202 rfl fun _ F204 => ?_; clear F202
        refine qv 28 (.bool true) F204 rfl (rn_pickT (c_true F204 rfl rfl) rfl) fun _ F206 => ?_; clear F204
        refine qv 29 (.bool true) F206 rfl (rn_move (F206.get rfl)) fun _ F208 => ?_; clear F206
        refine qu 30 F208 rfl fun _ F210 => ?_; clear F208
        refine qu 31 F210 rfl fun _ F212 => ?_; clear F210
        refine qu 32 F212 rfl fun _ F214 => ?_; clear F212
        refine qv 33 (.bool true) F214 rfl (rn_pickT (c_true F214 rfl rfl) rfl) fun _ F216 => ?_; clear F214
        refine wpList_nil ?_
        refine hK21 _ _ ?_
        clear hK21
        have F217 := ((((((((F216.nil.c F216 46 rfl).c F216 8 rfl).c F216 7 rfl).c F216 4 rfl).c F216 3 rfl).c F216 2 rfl).c F216 1 rfl).c F216 0 rfl)
        clear F216
        refine wp_cond_true (c_true F217 rfl rfl) ?_
        refine wp_seq_k (fun K218 hK218 => ?_)
        refine wp_region_lit ?_
        refine qv 0 (.bool false) F217 rfl (rn_assign rfl) fun _ F220 => ?_; clear F217
        refine wpList_nil ?_
        refine hK218 _ _ ?_
        clear hK218
        refine wp_ret ?_
        refine ret_then ?_
        refine ret1 F220 rfl rfl ?_
        exact ⟨by rw [verify_not (s := ⟨idx, op, cl, pa⟩) (by unfold vShape; simp only; omega)], (((Ext.refl w).trans hx5).trans hx13)⟩
      · skip
        refine qg 12 (.pointer (some ⟨g10, 0, none⟩)) F171 (decide_eq_false hc172) (rn_field Tryd.underlying30 rfl (by kernel_rfl) (F171.get rfl) rfl) fun _ F222 => ?_; clear F171
        refine qg 13 (.int .i64 idx) F222 (decide_eq_false hc172) (rn_load (isAgg_no Tryd.underlying3 rfl) (F222.get rfl) (b12.rule.1 0)) fun _ F224 => ?_; clear F222
        refine qg 14 (.int .i64 n) F224 (decide_eq_false hc172) (rn_move (F224.get rfl)) fun _ F226 => ?_; clear F224
        refine qg 15 (.bool (decide ((n : Int) ≤ (idx : Int)))) F226 (decide_eq_false hc172) (rn_geq (F226.get rfl) (F226.get rfl)) fun _ F228 => ?_; clear F226
        refine qv 16 (.bool (decide ((n : Int) ≤ (idx : Int)))) F228 rfl (rn_pickF (c_false F228 rfl (decide_eq_false hc172)) (F228.get rfl)) fun _ F230 => ?_; clear F228
        refine qv 17 (.bool (decide ((n : Int) ≤ (idx : Int)))) F230 rfl (rn_move (F230.get rfl)) fun _ F232 => ?_; clear F230
        by_cases hc233 : (n : Int) ≤ (idx : Int)
        · skip
          refine qu 18 F232 (decide_eq_true hc233) fun _ F235 => ?_; clear F232
          refine qu 19 F235 (decide_eq_true hc233) fun _ F237 => ?_; clear F235
          refine qu 20 F237 (decide_eq_true hc233) fun _ F239 => ?_; clear F237
          refine qu 21 F239 (decide_eq_true hc233) fun _ F241 => ?_; clear F239
          refine qv 22 (.bool true) F241 rfl (rn_pickT (c_true F241 rfl (decide_eq_true hc233)) rfl) fun _ F243 => ?_; clear F241
          refine qv 23 (.bool true) F243 rfl (rn_move (F243.get rfl)) fun _ F245 => ?_; clear F243
          refine qu 24 F245 rfl fun _ F247 => ?_; clear F245
          refine qu 25 F247 rfl fun _ F249 => ?_; clear F247
          refine qu 26 F249 rfl fun _ F251 => ?_; clear F249
          refine qu 27 F251 rfl fun _ F253 => ?_; clear F251
          refine qv 28 (.bool true) F253 rfl (rn_pickT (c_true F253 rfl rfl) rfl) fun _ F255 => ?_; clear F253
          refine qv 29 (.bool true) F255 rfl (rn_move (F255.get rfl)) fun _ F257 => ?_; clear F255
          refine qu 30 F257 rfl fun _ F259 => ?_; clear F257
          refine qu 31 F259 rfl fun _ F261 => ?_; clear F259
          refine qu 32 F261 rfl fun _ F263 => ?_; clear F261
          refine qv 33 (.bool true) F263 rfl (rn_pickT (c_true F263 rfl rfl) rfl) fun _ F265 => ?_; clear F263
          refine wpList_nil ?_
          refine hK21 _ _ ?_
          clear hK21
          have F266 := ((((((((F265.nil.c F265 46 rfl).c F265 8 rfl).c F265 7 rfl).c F265 4 rfl).c F265 3 rfl).c F265 2 rfl).c F265 1 rfl).c F265 0 rfl)
          clear F265
          refine wp_cond_true (c_true F266 rfl rfl) ?_
          refine wp_seq_k (fun K267 hK267 => ?_)
          refine wp_region_lit ?_
          refine qv 0 (.bool false) F266 rfl (rn_assign rfl) fun _ F269 => ?_; clear F266
          refine wpList_nil ?_
          refine hK267 _ _ ?_
          clear hK267
          refine wp_ret ?_
          refine ret_then ?_
          refine ret1 F269 rfl rfl ?_
          exact ⟨by rw [verify_not (s := ⟨idx, op, cl, pa⟩) (by unfold vShape; simp only; omega)], (((Ext.refl w).trans hx5).trans hx13)⟩
        · skip
          refine qg 18 (.pointer (some ⟨g10, 1, none⟩)) F232 (decide_eq_false hc233) (rn_field Tryd.underlying30 rfl (by kernel_rfl) (F232.get rfl) rfl) fun _ F271 => ?_; clear F232
          refine qg 19 (.slice O op.length oc) F271 (decide_eq_false hc233) (rn_load (isAgg_no Tryd.underlying28 rfl) (F271.get rfl) (b12.rule.1 1)) fun _ F273 => ?_; clear F271
          refine qg 20 (.int .i64 (op.length : Nat)) F273 (decide_eq_false hc233) (rn_len_slice Tryd.underlying28 (F273.get rfl)) fun _ F275 => ?_; clear F273
          refine qg 21 (.bool (decide (((op.length : Nat) : Int) ≠ (64 : Int)))) F275 (decide_eq_false hc233) (rn_neq (F275.get rfl) rfl) fun _ F277 => ?_; clear F275
          refine qv 22 (.bool (decide (((op.length : Nat) : Int) ≠ (64 : Int)))) F277 rfl (rn_pickF (c_false F277 rfl (decide_eq_false hc233)) (F277.get rfl)) fun _ F279 => ?_; clear F277
          refine qv 23 (.bool (decide (((op.length : Nat) : Int) ≠ (64 : Int)))) F279 rfl (rn_move (F279.get rfl)) fun _ F281 => ?_; clear F279
          by_cases hc282 : ((op.length : Nat) : Int) ≠ (64 : Int)
          · skip
            refine qu 24 F281 (decide_eq_true hc282) fun _ F284 => ?_; clear F281
            refine qu 25 F284 (decide_eq_true hc282) fun _ F286 => ?_; clear F284
            refine qu 26 F286 (decide_eq_true hc282) fun _ F288 => ?_; clear F286
            refine qu 27 F288 (decide_eq_true hc282) fun _ F290 => ?_; clear F288
            refine qv 28 (.bool true) F290 rfl (rn_pickT (c_true F290 rfl (decide_eq_true hc282)) rfl) fun _ F292 => ?_; clear F290
            refine qv 29 (.bool true) F292 rfl (rn_move (F292.get rfl)) fun _ F294 => ?_; clear F292
            refine qu 30 F294 rfl fun _ F296 => ?_; clear F294
            refine qu 31 F296 rfl fun _ F298 => ?_; clear F296
            refine qu 32 F298 rfl fun _ F300 => ?_; clear F298
            refine qv 33 (.bool true) F300 rfl (rn_pickT (c_true F300 rfl rfl) rfl) fun _ F302 => ?_; clear F300
            refine wpList_nil ?_
            refine hK21 _ _ ?_
            clear hK21
            have F303 := ((((((((F302.nil.c F302 46 rfl).c F302 8 rfl).c F302 7 rfl).c F302 4 rfl).c F302 3 rfl).c F302 2 rfl).c F302 1 rfl).c F302 0 rfl)
            clear F302
            refine wp_cond_true (c_true F303 rfl rfl) ?_
            refine wp_seq_k (fun K304 hK304 => ?_)
            refine wp_region_lit ?_
            refine qv 0 (.bool false) F303 rfl (rn_assign rfl) fun _ F306 => ?_; clear F303
            refine wpList_nil ?_
            refine hK304 _ _ ?_
            clear hK304
            refine wp_ret ?_
            refine ret_then ?_
            refine ret1 F306 rfl rfl ?_
            exact ⟨by rw [verify_not (s := ⟨idx, op, cl, pa⟩) (by unfold vShape; simp only; omega)], (((Ext.refl w).trans hx5).trans hx13)⟩
          · skip
            refine qg 24 (.pointer (some ⟨g10, 2, none⟩)) F281 (decide_eq_false hc282) (rn_field Tryd.underlying30 rfl (by kernel_rfl) (F281.get rfl) rfl) fun _ F308 => ?_; clear F281
            refine qg 25 (.slice C cl.length ec) F308 (decide_eq_false hc282) (rn_load (isAgg_no Tryd.underlying28 rfl) (F308.get rfl) (b12.rule.1 2)) fun _ F310 => ?_; clear F308
            refine qg 26 (.int .i64 (cl.length : Nat)) F310 (decide_eq_false hc282) (rn_len_slice Tryd.underlying28 (F310.get rfl)) fun _ F312 => ?_; clear F310
            refine qg 27 (.bool (decide (((cl.length : Nat) : Int) ≠ (64 : Int)))) F312 (decide_eq_false hc282) (rn_neq (F312.get rfl) rfl) fun _ F314 => ?_; clear F312
            refine qv 28 (.bool (decide (((cl.length : Nat) : Int) ≠ (64 : Int)))) F314 rfl (rn_pickF (c_false F314 rfl (decide_eq_false hc282)) (F314.get rfl)) fun _ F316 => ?_; clear F314
            refine qv 29 (.bool (decide (((cl.length : Nat) : Int) ≠ (64 : Int)))) F316 rfl (rn_move (F316.get rfl)) fun _ F318 => ?_; clear F316
            by_cases hc319 : ((cl.length : Nat) : Int) ≠ (64 : Int)
            · skip
              refine qu 30 F318 (decide_eq_true hc319) fun _ F321 => ?_; clear F318
              refine qu 31 F321 (decide_eq_true hc319) fun _ F323 => ?_; clear F321
              refine qu 32 F323 (decide_eq_true hc319) fun _ F325 => ?_; clear F323
              refine qv 33 (.bool true) F325 rfl (rn_pickT (c_true F325 rfl (decide_eq_true hc319)) rfl) fun _ F327 => ?_; clear F325
              refine wpList_nil ?_
              refine hK21 _ _ ?_
              clear hK21
              have F328 := ((((((((F327.nil.c F327 46 rfl).c F327 8 rfl).c F327 7 rfl).c F327 4 rfl).c F327 3 rfl).c F327 2 rfl).c F327 1 rfl).c F327 0 rfl)
              clear F327
              refine wp_cond_true (c_true F328 rfl rfl) ?_
              refine wp_seq_k (fun K329 hK329 => ?_)
              refine wp_region_lit ?_
              refine qv 0 (.bool false) F328 rfl (rn_assign rfl) fun _ F331 => ?_; clear F328
              refine wpList_nil ?_
              refine hK329 _ _ ?_
              clear hK329
              refine wp_ret ?_
              refine ret_then ?_
              refine ret1 F331 rfl rfl ?_
              exact ⟨by rw [verify_not (s := ⟨idx, op, cl, pa⟩) (by unfold vShape; simp only; omega)], (((Ext.refl w).trans hx5).trans hx13)⟩
            · skip
              refine qg 30 (.slice B msg.length cb) F318 (decide_eq_false hc319) (rn_move (F318.get rfl)) fun _ F333 => ?_; clear F318
              refine qg 31 (.int .i64 (msg.length : Nat)) F333 (decide_eq_false hc319) (rn_len_slice Tryd.underlying22 (F333.get rfl)) fun _ F335 => ?_; clear F333
              refine qg 32 (.bool (decide ((65536 : Int) < ((msg.length : Nat) : Int)))) F335 (decide_eq_false hc319) (rn_gtr (F335.get rfl) rfl) fun _ F337 => ?_; clear F335
              refine qv 33 (.bool (decide ((65536 : Int) < ((msg.length : Nat) : Int)))) F337 rfl (rn_pickF (c_false F337 rfl (decide_eq_false hc319)) (F337.get rfl)) fun _ F339 => ?_; clear F337
              refine wpList_nil ?_
              refine hK21 _ _ ?_
              clear hK21
              have F340 := ((((((((F339.nil.c F339 46 rfl).c F339 8 rfl).c F339 7 rfl).c F339 4 rfl).c F339 3 rfl).c F339 2 rfl).c F339 1 rfl).c F339 0 rfl)
              clear F339
              by_cases hc341 : (65536 : Int) < ((msg.length : Nat) : Int)
              · skip
                refine wp_cond_true (c_true F340 rfl (decide_eq_true hc341)) ?_
                refine wp_seq_k (fun K342 hK342 => ?_)
                refine wp_region_lit ?_
                refine qv 0 (.bool false) F340 rfl (rn_assign rfl) fun _ F344 => ?_; clear F340
                refine wpList_nil ?_
                refine hK342 _ _ ?_
                clear hK342
                refine wp_ret ?_
                refine ret_then ?_
                refine ret1 F344 rfl rfl ?_
                exact ⟨by rw [verify_not (s := ⟨idx, op, cl, pa⟩) (by unfold vShape; simp only; omega)], (((Ext.refl w).trans hx5).trans hx13)⟩
              · skip
                refine wp_cond_false (c_false F340 rfl (decide_eq_false hc341)) ?_
                refine wp_skip ?_
                refine hK20 _ _ ?_
                clear hK20
                refine wp_seq_k (fun K345 hK345 => ?_)
                refine wp_region_lit ?_
                have b346 := (b4.ext hx13)
                refine qv 0 (.agg (byteVals root).toArray) F340 rfl (rn_loadBlk (F340.get rfl) b346 Tryd.underlying37 rfl (inf37.trans (congrArg some (byteVals_len hd).symm))) fun _ F348 => ?_; clear F340
                refine qv 1 (.pointer (some ⟨g10, 0, none⟩)) F348 rfl (rn_field Tryd.underlying30 rfl (by kernel_rfl) (F348.get rfl) rfl) fun _ F350 => ?_; clear F348
                refine qv 2 (.int .i64 idx) F350 rfl (rn_load (isAgg_no Tryd.underlying3 rfl) (F350.get rfl) (b12.rule.1 0)) fun _ F352 => ?_; clear F350
                refine qv 3 (.slice B msg.length cb) F352 rfl (rn_move (F352.get rfl)) fun _ F354 => ?_; clear F352
                have d355 := ((hb.ext hx5).ext hx13)
                have hi356 : (((idx : Int).toNat : Nat) : Int) = idx := by omega
                refine wpl_op (i := 4) rfl (o_call F354 rfl rfl rfl rfl (rn_call (args3 (F354.get rfl) (F354.get rfl) (F354.get rfl)) rfl (by kernel_rfl)) (signed_int (v := (.slice B msg.length cb)) (m := msg.length) root idx msg _ hd d355 (hG.ext (((Ext.refl w).trans hx5).trans hx13)) (by omega) (by omega) (by omega)) ?_)
                rintro _ w357 ⟨rfl, hx358⟩
                refine ⟨_, rfl, ?_⟩; intro a359 F360; clear F354; have z361 := hx358.size
                refine wpl_op (i := 5) rfl (o_new (fun g => (.pointer (some ⟨g, 0, none⟩))) (boolVals (List.replicate 64 false)) 60 F360 rfl rfl rfl rfl (by kernel_rfl) ?_)
                intro g362 w363 a368 F369 z366 z367 b364 hx365; clear F360
                refine wpl_op (i := 6) rfl (o_store (cells := (boolVals (bitsL root ((idx : Int).toNat) msg))) F369 rfl rfl rfl rfl (F369.get rfl) (F369.get rfl) b364 (inf60.trans (congrArg some (boolVals_len (bitsL_len root ((idx : Int).toNat) msg)).symm)) ((boolVals_len (show List.length (List.replicate 64 false) = _ from List.length_replicate)).trans (boolVals_len (bitsL_len root ((idx : Int).toNat) msg)).symm) (boolVals_one _) ?_)
                intro w370 b371 hg372; have z373 := hg372.size
                refine wpList_nil ?_
                refine hK345 _ _ ?_
                clear hK345
                have F374 := (((((((((F369.nil.c F369 9 rfl).c F369 46 rfl).c F369 8 rfl).c F369 7 rfl).c F369 4 rfl).c F369 3 rfl).c F369 2 rfl).c F369 1 rfl).c F369 0 rfl)
                clear F369
                refine wp_seq_k (fun K375 hK375 => ?_)
                refine wp_region_lit ?_
                refine qv 0 (.func (.func 42) #[] #[(.pointer (some ⟨g362, 0, none⟩)), (.pointer (some ⟨g10, 0, none⟩))]) F374 rfl (rn_makeFunc (args0 ) (args2 (F374.get rfl) (F374.get rfl))) fun _ F377 => ?_; clear F374
                refine qv 1 (.func (.func 42) #[] #[(.pointer (some ⟨g362, 0, none⟩)), (.pointer (some ⟨g10, 0, none⟩))]) F377 rfl (rn_assign (F377.get rfl)) fun _ F379 => ?_; clear F377
                refine wpList_nil ?_
                refine hK375 _ _ ?_
                clear hK375
                refine wp_seq_k (fun K380 hK380 => ?_)
                have hx382 : ∃ W, w370.drew = W ∧ Ext w370 W := ⟨_, rfl, (Ext.refl _).drew⟩
                obtain ⟨w381, e383, hx382⟩ := hx382
                have z384 := hx382.size
                refine any_start (fun W => Ext w381 W ∧ Blk W g10 30 [(.int .i64 idx), (.slice O op.length oc), (.slice C cl.length ec), (.slice P pa.length pc)]) (fun i => i == 12) 14 #[false, false, false, false, false, false, false, false, false, false, false, false, false, false] rfl rfl rfl ?_
                rw [e383]; clear e383
                refine any_have (n1 := 2) (L1 := #[true, true, true, true, true, true, true, true, true, true, true, true, false, false]) (fun a' W => ∃ (g449 : Nat), Sl 71 [(0, (.agg (byteVals root).toArray)), (1, (.int .i64 n)), (2, (.slice B msg.length cb)), (3, (.agg #[(.int .i64 idx), (.slice O op.length oc), (.slice C cl.length ec), (.slice P pa.length pc)])), (4, (.pointer (some ⟨g2, 0, none⟩))), (7, (.pointer (some ⟨g10, 0, none⟩))), (8, (.bool false)), (9, (.pointer (some ⟨g362, 0, none⟩))), (10, (.func (.func 42) #[] #[(.pointer (some ⟨g362, 0, none⟩)), (.pointer (some ⟨g10, 0, none⟩))])), (11, (.pointer (some ⟨g449, 0, none⟩))), (46, (.bool (decide ((65536 : Int) < ((msg.length : Nat) : Int))))), (62, (.agg (byteVals ((climbF (publicD (shown (bitsL root ((idx : Int).toNat) msg) ⟨idx, op, cl, pa⟩)) idx n pa).1)).toArray)), (63, (.int .i64 ((climbF (publicD (shown (bitsL root ((idx : Int).toNat) msg) ⟨idx, op, cl, pa⟩)) idx n pa).2)))] a' ∧ Ext w381 W ∧ Blk W g449 37 (byteVals (List.replicate 32 0)) ∧ w381.heap.size ≤ g449) ?_ (fun st464 => ?_)
                · skip
                  rintro a465 w466 ⟨g449, F467, hx468, b469, z470⟩
                  clear F379
                  have z471 := hx468.size
                  have z472 := b469.lt
                  refine any_one (i := 12) (by decide +kernel) rfl ?_
                  refine o_store (cells := (byteVals ((climbF (publicD (shown (bitsL root ((idx : Int).toNat) msg) ⟨idx, op, cl, pa⟩)) idx n pa).1))) F467 rfl rfl rfl rfl (F467.get rfl) (F467.get rfl) b469 (inf37.trans (congrArg some (byteVals_len (climbF_len _ _ _ _)).symm)) ((byteVals_len (show List.length (List.replicate 32 0) = _ from List.length_replicate)).trans (byteVals_len (climbF_len _ _ _ _)).symm) (byteVals_one _) ?_
                  intro w473 b474 hg475; have z476 := hg475.size
                  refine ⟨fun h => absurd h (by decide), ?_⟩
                  refine qp 13 (.int .i64 ((climbF (publicD (shown (bitsL root ((idx : Int).toNat) msg) ⟨idx, op, cl, pa⟩)) idx n pa).2)) F467 rfl rfl (fun W => (rn_assign (F467.get rfl))) fun _ F478 => ?_; clear F467
                  refine any_nil (by decide +kernel) ?_
                  refine hK380 _ _ ?_
                  clear hK380
                  refine wp_seq_k (fun K479 hK479 => ?_)
                  refine wp_region_lit ?_
                  refine qv 0 (.int .i64 ((climbF (publicD (shown (bitsL root ((idx : Int).toNat) msg) ⟨idx, op, cl, pa⟩)) idx n pa).2)) F478 rfl (rn_move (F478.get rfl)) fun _ F481 => ?_; clear F478
                  refine qv 1 (.bool (decide (((climbF (publicD (shown (bitsL root ((idx : Int).toNat) msg) ⟨idx, op, cl, pa⟩)) idx n pa).2 : Int) = (0 : Int)))) F481 rfl (rn_eql (F481.get rfl) rfl) fun _ F483 => ?_; clear F481
                  refine qv 2 (.bool (decide (((climbF (publicD (shown (bitsL root ((idx : Int).toNat) msg) ⟨idx, op, cl, pa⟩)) idx n pa).2 : Int) = (0 : Int)))) F483 rfl (rn_move (F483.get rfl)) fun _ F485 => ?_; clear F483
                  by_cases hc486 : ((climbF (publicD (shown (bitsL root ((idx : Int).toNat) msg) ⟨idx, op, cl, pa⟩)) idx n pa).2 : Int) = (0 : Int)
                  · skip
                    refine qg 3 (.agg (byteVals ((climbF (publicD (shown (bitsL root ((idx : Int).toNat) msg) ⟨idx, op, cl, pa⟩)) idx n pa).1)).toArray) F485 (decide_eq_true hc486) (rn_loadBlk (F485.get rfl) b474 Tryd.underlying37 rfl (inf37.trans (congrArg some (byteVals_len (climbF_len _ _ _ _)).symm))) fun _ F488 => ?_; clear F485
                    have b489 := ((((((b346.ext hx358).ext hx365).grownN hg372 (by omega)).ext hx382).ext hx468).grownN hg475 (by omega))
                    refine qg 4 (.agg (byteVals root).toArray) F488 (decide_eq_true hc486) (rn_loadBlk (F488.get rfl) b489 Tryd.underlying37 rfl (inf37.trans (congrArg some (byteVals_len hd).symm))) fun _ F491 => ?_; clear F488
                    refine qg 5 (.bool (decide ((climbF (publicD (shown (bitsL root ((idx : Int).toNat) msg) ⟨idx, op, cl, pa⟩)) idx n pa).1 = root))) F491 (decide_eq_true hc486) (rn_eqA Tryd.underlying37 Tryd.underlying5 inf5 (by kernel_rfl) (F491.get rfl) (F491.get rfl) (climbF_len _ _ _ _) hd) fun _ F493 => ?_; clear F491
                    refine qv 6 (.bool (decide ((climbF (publicD (shown (bitsL root ((idx : Int).toNat) msg) ⟨idx, op, cl, pa⟩)) idx n pa).1 = root))) F493 rfl (rn_pickT (c_true F493 rfl (decide_eq_true hc486)) (F493.get rfl)) fun _ F495 => ?_; clear F493
                    refine qv 7 (.bool (decide ((climbF (publicD (shown (bitsL root ((idx : Int).toNat) msg) ⟨idx, op, cl, pa⟩)) idx n pa).1 = root))) F495 rfl (rn_assign (F495.get rfl)) fun _ F497 => ?_; clear F495
                    refine wpList_nil ?_
                    refine hK479 _ _ ?_
                    clear hK479
                    have F498 := ((((((((((((F497.nil.c F497 12 rfl).c F497 46 rfl).c F497 11 rfl).c F497 10 rfl).c F497 9 rfl).c F497 8 rfl).c F497 7 rfl).c F497 4 rfl).c F497 3 rfl).c F497 2 rfl).c F497 1 rfl).c F497 0 rfl)
                    clear F497
                    refine wp_ret ?_
                    refine ret1 F498 rfl rfl ?_
                    have hv : vShape n msg ⟨idx, op, cl, pa⟩ := by unfold vShape; simp only; omega
                    have hcs : climbS root n msg ⟨idx, op, cl, pa⟩ = climbF (publicD (shown (bitsL root ((idx : Int).toNat) msg) ⟨idx, op, cl, pa⟩)) idx n pa := rfl
                    exact ⟨by rw [verify_yes hv, hcs, show decide (_ = (0 : Int)) = true from (decide_eq_true hc486), Bool.true_and], (((((((((Ext.refl w).trans hx5).trans hx13).trans hx358).trans hx365).grownN hg372 (by omega)).trans hx382).trans hx468).grownN hg475 (by omega))⟩
                  · skip
                    refine qu 3 F485 (decide_eq_false hc486) fun _ F500 => ?_; clear F485
                    refine qu 4 F500 (decide_eq_false hc486) fun _ F502 => ?_; clear F500
                    refine qu 5 F502 (decide_eq_false hc486) fun _ F504 => ?_; clear F502
                    refine qv 6 (.bool false) F504 rfl (rn_pickF (c_false F504 rfl (decide_eq_false hc486)) rfl) fun _ F506 => ?_; clear F504
                    refine qv 7 (.bool false) F506 rfl (rn_assign (F506.get rfl)) fun _ F508 => ?_; clear F506
                    refine wpList_nil ?_
                    refine hK479 _ _ ?_
                    clear hK479
                    have F509 := ((((((((((((F508.nil.c F508 12 rfl).c F508 46 rfl).c F508 11 rfl).c F508 10 rfl).c F508 9 rfl).c F508 8 rfl).c F508 7 rfl).c F508 4 rfl).c F508 3 rfl).c F508 2 rfl).c F508 1 rfl).c F508 0 rfl)
                    clear F508
                    refine wp_ret ?_
                    refine ret1 F509 rfl rfl ?_
                    have hv : vShape n msg ⟨idx, op, cl, pa⟩ := by unfold vShape; simp only; omega
                    have hcs : climbS root n msg ⟨idx, op, cl, pa⟩ = climbF (publicD (shown (bitsL root ((idx : Int).toNat) msg) ⟨idx, op, cl, pa⟩)) idx n pa := rfl
                    exact ⟨by rw [verify_yes hv, hcs, show decide (_ = (0 : Int)) = false from (decide_eq_false hc486)]; rfl, (((((((((Ext.refl w).trans hx5).trans hx13).trans hx358).trans hx365).grownN hg372 (by omega)).trans hx382).trans hx468).grownN hg475 (by omega))⟩
                refine any_have (n1 := 6) (L1 := #[true, true, true, true, true, true, true, false, false, false, false, true, false, false]) (fun a' W => ∃ (g413 : Nat), Sl 71 [(0, (.agg (byteVals root).toArray)), (1, (.int .i64 n)), (2, (.slice B msg.length cb)), (3, (.agg #[(.int .i64 idx), (.slice O op.length oc), (.slice C cl.length ec), (.slice P pa.length pc)])), (4, (.pointer (some ⟨g2, 0, none⟩))), (7, (.pointer (some ⟨g10, 0, none⟩))), (8, (.bool false)), (9, (.pointer (some ⟨g362, 0, none⟩))), (10, (.func (.func 42) #[] #[(.pointer (some ⟨g362, 0, none⟩)), (.pointer (some ⟨g10, 0, none⟩))])), (11, (.pointer (some ⟨g413, 0, none⟩))), (46, (.bool (decide ((65536 : Int) < ((msg.length : Nat) : Int))))), (55, (.agg (byteVals (publicD (shown (bitsL root ((idx : Int).toNat) msg) ⟨idx, op, cl, pa⟩))).toArray)), (57, (.int .i64 idx)), (58, (.int .i64 n)), (60, (.slice P pa.length pc))] a' ∧ Ext w381 W ∧ Blk W g413 37 (byteVals (List.replicate 32 0)) ∧ w381.heap.size ≤ g413) ?_ (fun st510 => ?_)
                · skip
                  rintro a511 w512 ⟨g413, F513, hx514, b515, z516⟩
                  clear F379
                  have z517 := hx514.size
                  have z518 := b515.lt
                  refine any_one (i := 7) (by decide +kernel) rfl ?_
                  have d519 := (hcp.pres ((((((((Pres.refl w).ext hx5).ext hx13).ext hx358).ext hx365).grownN hg372 (fun h => by simp only [Clip] at h; omega)).ext hx382).ext hx514))
                  refine o_call F513 rfl rfl rfl rfl (rn_call (args4 (F513.get rfl) (F513.get rfl) (F513.get rfl) (F513.get rfl)) rfl (by kernel_rfl)) (climb_at (publicD (shown (bitsL root ((idx : Int).toNat) msg) ⟨idx, op, cl, pa⟩)) idx n pa _ (v := (.slice P pa.length pc)) (m := pa.length) (publicD_len _) h32p d519 (hG.ext ((((((((Ext.refl w).trans hx5).trans hx13).trans hx358).trans hx365).grownN hg372 (by omega)).trans hx382).trans hx514))) ?_
                  rintro _ w520 ⟨rfl, hx521⟩
                  refine ⟨_, rfl, ?_⟩; intro a522 F523; clear F513; have z524 := hx521.size
                  have b525 := ((((((b12.ext hx358).ext hx365).grownN hg372 (by omega)).ext hx382).ext hx514).ext hx521)
                  refine ⟨fun _ _ => ⟨(((Ext.refl w381).trans hx514).trans hx521), b525⟩, ?_⟩
                  refine qp 8 (.tuple #[(.agg (byteVals ((climbF (publicD (shown (bitsL root ((idx : Int).toNat) msg) ⟨idx, op, cl, pa⟩)) idx n pa).1)).toArray), (.int .i64 ((climbF (publicD (shown (bitsL root ((idx : Int).toNat) msg) ⟨idx, op, cl, pa⟩)) idx n pa).2))]) F523 rfl rfl (fun W => (rn_move (F523.get rfl))) fun _ F527 => ?_; clear F523
                  refine qp 9 (.agg (byteVals ((climbF (publicD (shown (bitsL root ((idx : Int).toNat) msg) ⟨idx, op, cl, pa⟩)) idx n pa).1)).toArray) F527 rfl rfl (fun W => (rn_extract (F527.get rfl) rfl)) fun _ F529 => ?_; clear F527
                  refine qp 10 (.int .i64 ((climbF (publicD (shown (bitsL root ((idx : Int).toNat) msg) ⟨idx, op, cl, pa⟩)) idx n pa).2)) F529 rfl rfl (fun W => (rn_extract (F529.get rfl) rfl)) fun _ F531 => ?_; clear F529
                  have b532 := (b515.ext hx521)
                  exact st464 _ _ ⟨g413, (((((((((((((F531.nil.c F531 63 rfl).c F531 62 rfl).c F531 46 rfl).c F531 11 rfl).c F531 10 rfl).c F531 9 rfl).c F531 8 rfl).c F531 7 rfl).c F531 4 rfl).c F531 3 rfl).c F531 2 rfl).c F531 1 rfl).c F531 0 rfl), (((Ext.refl w381).trans hx514).trans hx521), b532, (by omega)⟩
                refine qp 0 (.func (.func 42) #[] #[(.pointer (some ⟨g362, 0, none⟩)), (.pointer (some ⟨g10, 0, none⟩))]) F379 rfl rfl (fun W => (rn_move (F379.get rfl))) fun _ F534 => ?_; clear F379
                refine qp 2 (.pointer (some ⟨g10, 0, none⟩)) F534 rfl rfl (fun W => (rn_field Tryd.underlying30 rfl (by kernel_rfl) (F534.get rfl) rfl)) fun _ F536 => ?_; clear F534
                have b538 := ((((b12.ext hx358).ext hx365).grownN hg372 (by omega)).ext hx382)
                have hS537 : Ext w381 w381 ∧ Blk w381 g10 30 [(.int .i64 idx), (.slice O op.length oc), (.slice C cl.length ec), (.slice P pa.length pc)] := ⟨(Ext.refl w381), b538⟩
                refine qs 3 (.int .i64 idx) F536 rfl rfl hS537 (fun W hW => (rn_load (isAgg_no Tryd.underlying3 rfl) (F536.get rfl) (hW.2.rule.1 0))) fun _ F540 => ?_; clear F536
                refine qp 4 (.int .i64 n) F540 rfl rfl (fun W => (rn_move (F540.get rfl))) fun _ F542 => ?_; clear F540
                refine qp 5 (.pointer (some ⟨g10, 3, none⟩)) F542 rfl rfl (fun W => (rn_field Tryd.underlying30 rfl (by kernel_rfl) (F542.get rfl) rfl)) fun _ F544 => ?_; clear F542
                refine qs 6 (.slice P pa.length pc) F544 rfl rfl hS537 (fun W hW => (rn_load (isAgg_no Tryd.underlying28 rfl) (F544.get rfl) (hW.2.rule.1 3))) fun _ F546 => ?_; clear F544
                refine any_two (i := 1) (k := 11) (by decide +kernel) rfl rfl ?_ ?_
                · skip
                  have b547 := (b371.ext hx382)
                  have hf548 := b547
                  have hf549 := b538
                  have d550 := (hco.pres (((((((Pres.refl w).ext hx5).ext hx13).ext hx358).ext hx365).grownN hg372 (fun h => by simp only [Clip] at h; omega)).ext hx382))
                  have hf551 := d550
                  have d552 := (hce.pres (((((((Pres.refl w).ext hx5).ext hx13).ext hx358).ext hx365).grownN hg372 (fun h => by simp only [Clip] at h; omega)).ext hx382))
                  have hf553 := d552
                  have hf554 := (hG.ext (((((((Ext.refl w).trans hx5).trans hx13).trans hx358).trans hx365).grownN hg372 (by omega)).trans hx382))
                  refine o_call F546 rfl rfl rfl rfl (rn_call (args1 (F546.get rfl)) rfl (by kernel_rfl)) (public_any 42 #[] #[(.pointer (some ⟨g362, 0, none⟩)), (.pointer (some ⟨g10, 0, none⟩))] (shown (bitsL root ((idx : Int).toNat) msg) ⟨idx, op, cl, pa⟩) _ (fun _ _ => by kernel_rfl) (fun u v => #[u, v, (.pointer (some ⟨g362, 0, none⟩)), (.pointer (some ⟨g10, 0, none⟩))]) (fun u v => by simp) (fun j b W hj hx => shown_any j b g362 g10 (bitsL root ((idx : Int).toNat) msg) idx O oc op C ec cl pa _ W (hf548.ext hx) (hf549.ext hx) (hf551.ext hx) (hf553.ext hx) h32o h32c (hf554.ext hx) (bitsL_len root ((idx : Int).toNat) msg) hj (by omega) (by omega)) (fun j b hj => shown_len h32o h32c (show j < op.length by omega) (show j < cl.length by omega)) hf554) ?_
                  rintro _ w555 ⟨rfl, hx556⟩
                  refine ⟨_, rfl, ?_⟩; intro a557 F558; clear F546; have z559 := hx556.size
                  have b560 := (b538.ext hx556)
                  refine ⟨fun _ _ => ⟨((Ext.refl w381).trans hx556), b560⟩, ?_⟩
                  refine any_two (i := 7) (k := 11) (by decide +kernel) rfl rfl ?_ ?_
                  · skip
                    have d561 := (hcp.pres ((((((((Pres.refl w).ext hx5).ext hx13).ext hx358).ext hx365).grownN hg372 (fun h => by simp only [Clip] at h; omega)).ext hx382).ext hx556))
                    refine o_call F558 rfl rfl rfl rfl (rn_call (args4 (F558.get rfl) (F558.get rfl) (F558.get rfl) (F558.get rfl)) rfl (by kernel_rfl)) (climb_at (publicD (shown (bitsL root ((idx : Int).toNat) msg) ⟨idx, op, cl, pa⟩)) idx n pa _ (v := (.slice P pa.length pc)) (m := pa.length) (publicD_len _) h32p d561 (hG.ext ((((((((Ext.refl w).trans hx5).trans hx13).trans hx358).trans hx365).grownN hg372 (by omega)).trans hx382).trans hx556))) ?_
                    rintro _ w562 ⟨rfl, hx563⟩
                    refine ⟨_, rfl, ?_⟩; intro a564 F565; clear F558; have z566 := hx563.size
                    have b567 := (b560.ext hx563)
                    refine ⟨fun _ _ => ⟨(((Ext.refl w381).trans hx556).trans hx563), b567⟩, ?_⟩
                    refine qp 8 (.tuple #[(.agg (byteVals ((climbF (publicD (shown (bitsL root ((idx : Int).toNat) msg) ⟨idx, op, cl, pa⟩)) idx n pa).1)).toArray), (.int .i64 ((climbF (publicD (shown (bitsL root ((idx : Int).toNat) msg) ⟨idx, op, cl, pa⟩)) idx n pa).2))]) F565 rfl rfl (fun W => (rn_move (F565.get rfl))) fun _ F569 => ?_; clear F565
                    refine qp 9 (.agg (byteVals ((climbF (publicD (shown (bitsL root ((idx : Int).toNat) msg) ⟨idx, op, cl, pa⟩)) idx n pa).1)).toArray) F569 rfl rfl (fun W => (rn_extract (F569.get rfl) rfl)) fun _ F571 => ?_; clear F569
                    refine qp 10 (.int .i64 ((climbF (publicD (shown (bitsL root ((idx : Int).toNat) msg) ⟨idx, op, cl, pa⟩)) idx n pa).2)) F571 rfl rfl (fun W => (rn_extract (F571.get rfl) rfl)) fun _ F573 => ?_; clear F571
                    refine any_one (i := 11) (by decide +kernel) rfl ?_
                    refine o_new (fun g => (.pointer (some ⟨g, 0, none⟩))) (byteVals (List.replicate 32 0)) 37 F573 rfl rfl rfl rfl (by kernel_rfl) ?_
                    intro g574 w575 a580 F581 z578 z579 b576 hx577; clear F573
                    have b582 := (b567.ext hx577)
                    refine ⟨fun _ _ => ⟨((((Ext.refl w381).trans hx556).trans hx563).trans hx577), b582⟩, ?_⟩
                    exact st464 _ _ ⟨g574, (((((((((((((F581.nil.c F581 63 rfl).c F581 62 rfl).c F581 46 rfl).c F581 11 rfl).c F581 10 rfl).c F581 9 rfl).c F581 8 rfl).c F581 7 rfl).c F581 4 rfl).c F581 3 rfl).c F581 2 rfl).c F581 1 rfl).c F581 0 rfl), ((((Ext.refl w381).trans hx556).trans hx563).trans hx577), b576, (by omega)⟩
                  · skip
                    refine o_new (fun g => (.pointer (some ⟨g, 0, none⟩))) (byteVals (List.replicate 32 0)) 37 F558 rfl rfl rfl rfl (by kernel_rfl) ?_
                    intro g583 w584 a589 F590 z587 z588 b585 hx586; clear F558
                    have b591 := (b560.ext hx586)
                    refine ⟨fun _ _ => ⟨(((Ext.refl w381).trans hx556).trans hx586), b591⟩, ?_⟩
                    exact st510 _ _ ⟨g583, (((((((((((((((F590.nil.c F590 60 rfl).c F590 58 rfl).c F590 57 rfl).c F590 55 rfl).c F590 46 rfl).c F590 11 rfl).c F590 10 rfl).c F590 9 rfl).c F590 8 rfl).c F590 7 rfl).c F590 4 rfl).c F590 3 rfl).c F590 2 rfl).c F590 1 rfl).c F590 0 rfl), (((Ext.refl w381).trans hx556).trans hx586), b585, (by omega)⟩
                · skip
                  refine o_new (fun g => (.pointer (some ⟨g, 0, none⟩))) (byteVals (List.replicate 32 0)) 37 F546 rfl rfl rfl rfl (by kernel_rfl) ?_
                  intro g592 w593 a598 F599 z596 z597 b594 hx595; clear F546
                  have b600 := (b538.ext hx595)
                  refine ⟨fun _ _ => ⟨((Ext.refl w381).trans hx595), b600⟩, ?_⟩
                  refine any_one (i := 1) (by decide +kernel) rfl ?_
                  have b601 := ((b371.ext hx382).ext hx595)
                  have hf602 := b601
                  have hf603 := b600
                  have d604 := (hco.pres ((((((((Pres.refl w).ext hx5).ext hx13).ext hx358).ext hx365).grownN hg372 (fun h => by simp only [Clip] at h; omega)).ext hx382).ext hx595))
                  have hf605 := d604
                  have d606 := (hce.pres ((((((((Pres.refl w).ext hx5).ext hx13).ext hx358).ext hx365).grownN hg372 (fun h => by simp only [Clip] at h; omega)).ext hx382).ext hx595))
                  have hf607 := d606
                  have hf608 := (hG.ext ((((((((Ext.refl w).trans hx5).trans hx13).trans hx358).trans hx365).grownN hg372 (by omega)).trans hx382).trans hx595))
                  refine o_call F599 rfl rfl rfl rfl (rn_call (args1 (F599.get rfl)) rfl (by kernel_rfl)) (public_any 42 #[] #[(.pointer (some ⟨g362, 0, none⟩)), (.pointer (some ⟨g10, 0, none⟩))] (shown (bitsL root ((idx : Int).toNat) msg) ⟨idx, op, cl, pa⟩) _ (fun _ _ => by kernel_rfl) (fun u v => #[u, v, (.pointer (some ⟨g362, 0, none⟩)), (.pointer (some ⟨g10, 0, none⟩))]) (fun u v => by simp) (fun j b W hj hx => shown_any j b g362 g10 (bitsL root ((idx : Int).toNat) msg) idx O oc op C ec cl pa _ W (hf602.ext hx) (hf603.ext hx) (hf605.ext hx) (hf607.ext hx) h32o h32c (hf608.ext hx) (bitsL_len root ((idx : Int).toNat) msg) hj (by omega) (by omega)) (fun j b hj => shown_len h32o h32c (show j < op.length by omega) (show j < cl.length by omega)) hf608) ?_
                  rintro _ w609 ⟨rfl, hx610⟩
                  refine ⟨_, rfl, ?_⟩; intro a611 F612; clear F599; have z613 := hx610.size
                  have b614 := (b600.ext hx610)
                  refine ⟨fun _ _ => ⟨(((Ext.refl w381).trans hx595).trans hx610), b614⟩, ?_⟩
                  have b615 := (b594.ext hx610)
                  exact st510 _ _ ⟨g592, (((((((((((((((F612.nil.c F612 60 rfl).c F612 58 rfl).c F612 57 rfl).c F612 55 rfl).c F612 46 rfl).c F612 11 rfl).c F612 10 rfl).c F612 9 rfl).c F612 8 rfl).c F612 7 rfl).c F612 4 rfl).c F612 3 rfl).c F612 2 rfl).c F612 1 rfl).c F612 0 rfl), (((Ext.refl w381).trans hx595).trans hx610), b615, (by omega)⟩

end Go.Proofs.YtmjgjopbeokajaaDoor

namespace Go.Proofs.YtmjgjopbeokajaaDoor
open Go.RowKit

variable {S S' : Nat → Prop}

set_option maxRecDepth 100000 in
set_option maxHeartbeats 1000000 in
theorem sameb_any {S2 : Nat → Prop} (A B : Option Addr) (c e : Nat) (a b : List Bool) (w : World) (ha : Fl S w 1 (.slice A a.length c) a.length (boolVals a)) (hb : Fl S2 w 1 (.slice B b.length e) b.length (boolVals b)) (hca : a.length ≤ 9223372036854775807) :
    Calls Tryd.prog 23 #[.slice A a.length c, .slice B b.length e] w (fun e w' => e = .returned (.bool (decide (a = b))) ∧ Ext w w') := by
  refine calls_enter (l := [(.slice A a.length c), (.slice B b.length e)]) Tryd.func23 rfl rfl rfl (fun aA hF => ?_)
  refine wp_seq_k (fun K1 hK1 => ?_)
  refine wp_region_lit ?_
  refine qv 0 (.bool false) hF rfl (rn_assign rfl) fun _ F3 => ?_; clear hF
  refine wpList_nil ?_
  refine hK1 _ _ ?_
  clear hK1
  refine wp_seq_k (fun K4 hK4 => ?_)
  refine wp_seq_k (fun K5 hK5 => ?_)
  refine wp_region_lit ?_
  refine qv 0 (.slice A a.length c) F3 rfl (rn_move (F3.get rfl)) fun _ F7 => ?_; clear F3
  refine qv 1 (.int .i64 (a.length : Nat)) F7 rfl (rn_len_slice Tryd.underlying44 (F7.get rfl)) fun _ F9 => ?_; clear F7
  refine qv 2 (.slice B b.length e) F9 rfl (rn_move (F9.get rfl)) fun _ F11 => ?_; clear F9
  refine qv 3 (.int .i64 (b.length : Nat)) F11 rfl (rn_len_slice Tryd.underlying44 (F11.get rfl)) fun _ F13 => ?_; clear F11
  refine qv 4 (.bool (decide (((a.length : Nat) : Int) ≠ ((b.length : Nat) : Int)))) F13 rfl (rn_neq (F13.get rfl) (F13.get rfl)) fun _ F15 => ?_; clear F13
  refine wpList_nil ?_
  refine hK5 _ _ ?_
  clear hK5
  have F16 := ((((F15.nil.c F15 10 rfl).c F15 4 rfl).c F15 1 rfl).c F15 0 rfl)
  clear F15
  by_cases hc17 : ((a.length : Nat) : Int) ≠ ((b.length : Nat) : Int)
  · skip
    refine wp_cond_true (c_true F16 rfl (decide_eq_true hc17)) ?_
    refine wp_seq_k (fun K18 hK18 => ?_)
    refine wp_region_lit ?_
    refine qv 0 (.bool false) F16 rfl (rn_assign rfl) fun _ F20 => ?_; clear F16
    refine wpList_nil ?_
    refine hK18 _ _ ?_
    clear hK18
    refine wp_ret ?_
    refine ret_then ?_
    refine ret1 F20 rfl rfl ?_
    have hab : a ≠ b := ne_of_len (by omega)
    exact ⟨by rw [decide_eq_false hab], (Ext.refl w)⟩
  · skip
    refine wp_cond_false (c_false F16 rfl (decide_eq_false hc17)) ?_
    refine wp_skip ?_
    refine hK4 _ _ ?_
    clear hK4
    refine wp_seq_k (fun K21 hK21 => ?_)
    refine wp_seq_k (fun K22 hK22 => ?_)
    refine wp_region_lit ?_
    refine qv 0 (.int .i64 0) F16 rfl (rn_assign rfl) fun _ F24 => ?_; clear F16
    refine wpList_nil ?_
    refine hK22 _ _ ?_
    clear hK22
    refine wp_block ?_
    refine wp_loop (fun a' W => ∃ (k : Nat), Sl 26 [(0, (.slice A a.length c)), (1, (.slice B b.length e)), (4, (.bool false)), (10, (.bool (decide (((a.length : Nat) : Int) ≠ ((b.length : Nat) : Int))))), (5, (.int .i64 (k : Nat)))] a' ∧ k ≤ a.length ∧ a.take k = b.take k ∧ Ext w W ∧ w.heap.size ≤ W.heap.size) (fun a' _ => a.length - (intOf (a'.eval (.tmp 5))).toNat) ⟨0, (((((F24.nil.cons (q_get F24 (t := 5) rfl (by first | rfl | (congr 1; omega) | (congr 1; done)))).cons (q_get F24 (t := 10) rfl rfl)).cons (q_get F24 (t := 4) rfl rfl)).cons (q_get F24 (t := 1) rfl rfl)).cons (q_get F24 (t := 0) rfl rfl)), (by omega), rfl, (Ext.refl w), (Nat.le_refl _)⟩ ?_
    clear F24
    rintro a25 w26 ⟨k, F27, hp29, hp30, hx28, hf31⟩
    have hL32 := F27
    have z33 := hx28.size
    refine wp_seq_k (fun K34 hK34 => ?_)
    refine wp_seq_k (fun K35 hK35 => ?_)
    refine wp_region_lit ?_
    refine qv 0 (.int .i64 (k : Nat)) F27 rfl (rn_move (F27.get rfl)) fun _ F37 => ?_; clear F27
    refine qv 1 (.slice A a.length c) F37 rfl (rn_move (F37.get rfl)) fun _ F39 => ?_; clear F37
    refine qv 2 (.int .i64 (a.length : Nat)) F39 rfl (rn_len_slice Tryd.underlying44 (F39.get rfl)) fun _ F41 => ?_; clear F39
    refine qv 3 (.bool (decide (((k : Nat) : Int) < ((a.length : Nat) : Int)))) F41 rfl (rn_lss (F41.get rfl) (F41.get rfl)) fun _ F43 => ?_; clear F41
    refine wpList_nil ?_
    refine hK35 _ _ ?_
    clear hK35
    by_cases hc44 : ((k : Nat) : Int) < ((a.length : Nat) : Int)
    · skip
      refine wp_cond_true (c_true F43 rfl (decide_eq_true hc44)) ?_
      refine wp_skip ?_
      refine hK34 _ _ ?_
      clear hK34
      refine wp_seq_k (fun K45 hK45 => ?_)
      refine wp_block ?_
      refine wp_seq_k (fun K46 hK46 => ?_)
      have hx48 : ∃ W, w26.drew = W ∧ Ext w26 W := ⟨_, rfl, (Ext.refl _).drew⟩
      obtain ⟨w47, e49, hx48⟩ := hx48
      have z50 := hx48.size
      refine any_start (fun W => Ext w47 W) (fun i => false) 9 #[false, false, false, false, false, false, false, false, false] rfl rfl rfl ?_
      rw [e49]; clear e49
      refine qp 0 (.slice A a.length c) F43 rfl rfl (fun W => (rn_move (F43.get rfl))) fun _ F52 => ?_; clear F43
      refine qp 1 (.int .i64 (k : Nat)) F52 rfl rfl (fun W => (rn_move (F52.get rfl))) fun _ F54 => ?_; clear F52
      have d58 := ((ha.ext hx28).ext hx48)
      obtain ⟨b55, o56, hA57, -⟩ := Fl.at d58 (by omega)
      refine qp 2 (.pointer (some ⟨b55, o56 + k, none⟩)) F54 rfl rfl (fun W => (rn_index1 Tryd.underlying44 inf4 ((F54.get rfl).trans (by rw [hA57])) (F54.get rfl) (by omega : (0 : Int) ≤ (k : Nat)) (by omega : ((k : Nat) : Int) < ((a.length : Nat) : Int)))) fun _ F60 => ?_; clear F54
      have hS61 : Ext w47 w47 := (Ext.refl w47)
      refine qs 3 (.bool (a.getD k false)) F60 rfl rfl hS61 (fun W hW => (rn_load (isAgg_no Tryd.underlying4 rfl) (F60.get rfl) (Fl.cellAt (d58.ext hW) hA57 (boolVals_at (i := k) (by omega))))) fun _ F63 => ?_; clear F60
      refine qp 4 (.slice B b.length e) F63 rfl rfl (fun W => (rn_move (F63.get rfl))) fun _ F65 => ?_; clear F63
      refine qp 5 (.int .i64 (k : Nat)) F65 rfl rfl (fun W => (rn_move (F65.get rfl))) fun _ F67 => ?_; clear F65
      have d71 := ((hb.ext hx28).ext hx48)
      obtain ⟨b68, o69, hA70, -⟩ := Fl.at d71 (by omega)
      refine qp 6 (.pointer (some ⟨b68, o69 + k, none⟩)) F67 rfl rfl (fun W => (rn_index1 Tryd.underlying44 inf4 ((F67.get rfl).trans (by rw [hA70])) (F67.get rfl) (by omega : (0 : Int) ≤ (k : Nat)) (by omega : ((k : Nat) : Int) < ((b.length : Nat) : Int)))) fun _ F73 => ?_; clear F67
      refine qs 7 (.bool (b.getD k false)) F73 rfl rfl hS61 (fun W hW => (rn_load (isAgg_no Tryd.underlying4 rfl) (F73.get rfl) (Fl.cellAt (d71.ext hW) hA70 (boolVals_at (i := k) (by omega))))) fun _ F75 => ?_; clear F73
      rcases Bool.eq_false_or_eq_true (a.getD k false) with hc76 | hc76
      · skip
        rcases Bool.eq_false_or_eq_true (b.getD k false) with hc77 | hc77
        · skip
          refine qp 8 (.bool false) F75 rfl rfl (fun W => (rn_neB Tryd.underlying4 (F75.get rfl) (F75.get rfl) (show _ = true from hc76) (show _ = true from hc77) rfl)) fun _ F79 => ?_; clear F75
          refine any_nil (by decide +kernel) ?_
          refine hK46 _ _ ?_
          clear hK46
          have F80 := (((((((F79.nil.c F79 25 rfl).c F79 14 rfl).c F79 5 rfl).c F79 10 rfl).c F79 4 rfl).c F79 1 rfl).c F79 0 rfl)
          clear F79
          refine wp_cond_false (c_false F80 rfl rfl) ?_
          refine wp_skip ?_
          refine hK45 _ _ ?_
          clear hK45
          refine wp_region_lit ?_
          refine qv 0 (.int .i64 (k : Nat)) F80 rfl (rn_move (F80.get rfl)) fun _ F82 => ?_; clear F80
          refine qv 1 (.int .i64 (k + 1 : Nat)) F82 rfl (rn_addN (a := k) (b := 1) (F82.get rfl) rfl (by omega)) fun _ F84 => ?_; clear F82
          refine qv 2 (.int .i64 (k + 1 : Nat)) F84 rfl (rn_assign (F84.get rfl)) fun _ F86 => ?_; clear F84
          refine wpList_nil ?_
          refine ⟨⟨(k + 1), (((((F86.nil.cons (q_get F86 (t := 5) rfl (by first | rfl | (congr 1; omega) | (congr 1; done)))).cons (q_get F86 (t := 10) rfl rfl)).cons (q_get F86 (t := 4) rfl rfl)).cons (q_get F86 (t := 1) rfl rfl)).cons (q_get F86 (t := 0) rfl rfl)), (by omega), (take_succ_eq (d := false) hp30 (by omega) (by omega) (hc76.trans hc77.symm)), (((Ext.refl w).trans hx28).trans hx48), (by omega)⟩, ?_⟩
          rw [F86.get (t := 5) rfl, hL32.get (t := 5) rfl]; simp [intOf] <;> omega
        · skip
          refine qp 8 (.bool true) F75 rfl rfl (fun W => (rn_neB Tryd.underlying4 (F75.get rfl) (F75.get rfl) (show _ = true from hc76) (show _ = false from hc77) rfl)) fun _ F88 => ?_; clear F75
          refine any_nil (by decide +kernel) ?_
          refine hK46 _ _ ?_
          clear hK46
          have F89 := (((((((F88.nil.c F88 25 rfl).c F88 14 rfl).c F88 5 rfl).c F88 10 rfl).c F88 4 rfl).c F88 1 rfl).c F88 0 rfl)
          clear F88
          refine wp_cond_true (c_true F89 rfl rfl) ?_
          refine wp_seq_k (fun K90 hK90 => ?_)
          refine wp_region_lit ?_
          refine qv 0 (.bool false) F89 rfl (rn_assign rfl) fun _ F92 => ?_; clear F89
          refine wpList_nil ?_
          refine hK90 _ _ ?_
          clear hK90
          refine wp_ret ?_
          refine ret_block ?_
          refine ret_then ?_
          refine ret_then ?_
          refine ret_block ?_
          refine ret_then ?_
          refine ret1 F92 rfl rfl ?_
          have hab : a ≠ b := ne_of_getD (k := k) (d := false) (by rw [hc76, hc77]; decide)
          exact ⟨by rw [decide_eq_false hab], (((Ext.refl w).trans hx28).trans hx48)⟩
      · skip
        rcases Bool.eq_false_or_eq_true (b.getD k false) with hc93 | hc93
        · skip
          refine qp 8 (.bool true) F75 rfl rfl (fun W => (rn_neB Tryd.underlying4 (F75.get rfl) (F75.get rfl) (show _ = false from hc76) (show _ = true from hc93) rfl)) fun _ F95 => ?_; clear F75
          refine any_nil (by decide +kernel) ?_
          refine hK46 _ _ ?_
          clear hK46
          have F96 := (((((((F95.nil.c F95 25 rfl).c F95 14 rfl).c F95 5 rfl).c F95 10 rfl).c F95 4 rfl).c F95 1 rfl).c F95 0 rfl)
          clear F95
          refine wp_cond_true (c_true F96 rfl rfl) ?_
          refine wp_seq_k (fun K97 hK97 => ?_)
          refine wp_region_lit ?_
          refine qv 0 (.bool false) F96 rfl (rn_assign rfl) fun _ F99 => ?_; clear F96
          refine wpList_nil ?_
          refine hK97 _ _ ?_
          clear hK97
          refine wp_ret ?_
          refine ret_block ?_
          refine ret_then ?_
          refine ret_then ?_
          refine ret_block ?_
          refine ret_then ?_
          refine ret1 F99 rfl rfl ?_
          have hab : a ≠ b := ne_of_getD (k := k) (d := false) (by rw [hc76, hc93]; decide)
          exact ⟨by rw [decide_eq_false hab], (((Ext.refl w).trans hx28).trans hx48)⟩
        · skip
          refine qp 8 (.bool false) F75 rfl rfl (fun W => (rn_neB Tryd.underlying4 (F75.get rfl) (F75.get rfl) (show _ = false from hc76) (show _ = false from hc93) rfl)) fun _ F101 => ?_; clear F75
          refine any_nil (by decide +kernel) ?_
          refine hK46 _ _ ?_
          clear hK46
          have F102 := (((((((F101.nil.c F101 25 rfl).c F101 14 rfl).c F101 5 rfl).c F101 10 rfl).c F101 4 rfl).c F101 1 rfl).c F101 0 rfl)
          clear F101
          refine wp_cond_false (c_false F102 rfl rfl) ?_
          refine wp_skip ?_
          refine hK45 _ _ ?_
          clear hK45
          refine wp_region_lit ?_
          refine qv 0 (.int .i64 (k : Nat)) F102 rfl (rn_move (F102.get rfl)) fun _ F104 => ?_; clear F102
          refine qv 1 (.int .i64 (k + 1 : Nat)) F104 rfl (rn_addN (a := k) (b := 1) (F104.get rfl) rfl (by omega)) fun _ F106 => ?_; clear F104
          refine qv 2 (.int .i64 (k + 1 : Nat)) F106 rfl (rn_assign (F106.get rfl)) fun _ F108 => ?_; clear F106
          refine wpList_nil ?_
          refine ⟨⟨(k + 1), (((((F108.nil.cons (q_get F108 (t := 5) rfl (by first | rfl | (congr 1; omega) | (congr 1; done)))).cons (q_get F108 (t := 10) rfl rfl)).cons (q_get F108 (t := 4) rfl rfl)).cons (q_get F108 (t := 1) rfl rfl)).cons (q_get F108 (t := 0) rfl rfl)), (by omega), (take_succ_eq (d := false) hp30 (by omega) (by omega) (hc76.trans hc93.symm)), (((Ext.refl w).trans hx28).trans hx48), (by omega)⟩, ?_⟩
          rw [F108.get (t := 5) rfl, hL32.get (t := 5) rfl]; simp [intOf] <;> omega
    · skip
      refine wp_cond_false (c_false F43 rfl (decide_eq_false hc44)) ?_
      refine wp_exit ?_
      refine exit_then ?_
      refine exit_then ?_
      refine exit_here ?_
      refine hK21 _ _ ?_
      clear hK21
      refine wp_seq_k (fun K109 hK109 => ?_)
      refine wp_region_lit ?_
      refine qv 0 (.bool true) F43 rfl (rn_assign rfl) fun _ F111 => ?_; clear F43
      refine wpList_nil ?_
      refine hK109 _ _ ?_
      clear hK109
      refine wp_ret ?_
      refine ret1 F111 rfl rfl ?_
      have hab : a = b := take_all_eq hp30 (by omega) (by omega)
      exact ⟨by rw [decide_eq_true hab], ((Ext.refl w).trans hx28)⟩

theorem sameb_at {S2 : Nat → Prop} {v u : Value} {n m : Nat} (a b : List Bool) (w : World) (ha : Fl S w 1 v n (boolVals a)) (hb : Fl S2 w 1 u m (boolVals b)) : Calls Tryd.prog 23 #[v, u] w (fun e w' => e = .returned (.bool (decide (a = b))) ∧ Ext w w') := by
  have h1 := Fl.blen2 ha
  have h2 := Fl.blen2 hb
  subst h1 h2
  obtain ⟨A, c, rfl, hc⟩ := ha.form
  obtain ⟨B, e, rfl, he⟩ := hb.form
  exact sameb_any A B c e a b w ha hb (by omega)

def sameK (a b : List UInt8) (m1 u1 m2 u2 : Int) : Bool := decide (m1 = m2) && (decide (u1 = u2) && decide (a = b))
theorem sameK_refl (a : List UInt8) (m u : Int) : sameK a a m u m u = true := by simp [sameK]

set_option maxRecDepth 100000 in
set_option maxHeartbeats 1000000 in
theorem samek_any {S2 : Nat → Prop} (A B : Option Addr) (c e : Nat) (a b : List UInt8) (m1 u1 m2 u2 : Int) (w : World) (ha : Fl S w 1 (.slice A a.length c) a.length (byteVals a)) (hb : Fl S2 w 1 (.slice B b.length e) b.length (byteVals b)) :
    Calls Tryd.prog 22 #[.agg #[.slice A a.length c, .int .i64 m1, .int .i64 u1], .agg #[.slice B b.length e, .int .i64 m2, .int .i64 u2]] w (fun e w' => e = .returned (.bool (sameK a b m1 u1 m2 u2)) ∧ Ext w w') := by
  have hca : Fl (Clip S w) w 1 (.slice A a.length c) a.length (byteVals a) := ha.clip
  have hcac := (Fl.cel hca).2.1
  have hcb : Fl (Clip S2 w) w 1 (.slice B b.length e) b.length (byteVals b) := hb.clip
  have hcbc := (Fl.cel hcb).2.1
  refine calls_enter (l := [(.agg #[(.slice A a.length c), (.int .i64 m1), (.int .i64 u1)]), (.agg #[(.slice B b.length e), (.int .i64 m2), (.int .i64 u2)])]) Tryd.func22 rfl rfl rfl (fun aA hF => ?_)
  refine wp_seq_k (fun K1 hK1 => ?_)
  refine wp_region_lit ?_
  refine wpl_op (i := 0) rfl (o_new (fun g => (.pointer (some ⟨g, 0, none⟩))) [(.slice A a.length c), (.int .i64 m1), (.int .i64 u1)] 24 hF rfl rfl rfl rfl (rn_box (hF.get rfl) (by kernel_rfl)) ?_)
  intro g2 w3 a8 F9 z6 z7 b4 hx5; clear hF
  refine wpl_op (i := 1) rfl (o_new (fun g => (.pointer (some ⟨g, 0, none⟩))) [(.slice B b.length e), (.int .i64 m2), (.int .i64 u2)] 24 F9 rfl rfl rfl rfl (rn_box (F9.get rfl) (by kernel_rfl)) ?_)
  intro g10 w11 a16 F17 z14 z15 b12 hx13; clear F9
  refine qv 2 (.bool false) F17 rfl (rn_assign rfl) fun _ F19 => ?_; clear F17
  refine wpList_nil ?_
  refine hK1 _ _ ?_
  clear hK1
  refine wp_seq_k (fun K20 hK20 => ?_)
  refine wp_region_lit ?_
  refine qv 0 (.pointer (some ⟨g2, 1, none⟩)) F19 rfl (rn_field Tryd.underlying24 rfl (by kernel_rfl) (F19.get rfl) rfl) fun _ F22 => ?_; clear F19
  have b23 := (b4.ext hx13)
  refine qv 1 (.int .i64 m1) F22 rfl (rn_load (isAgg_no Tryd.underlying3 rfl) (F22.get rfl) (b23.rule.1 1)) fun _ F25 => ?_; clear F22
  refine qv 2 (.pointer (some ⟨g10, 1, none⟩)) F25 rfl (rn_field Tryd.underlying24 rfl (by kernel_rfl) (F25.get rfl) rfl) fun _ F27 => ?_; clear F25
  refine qv 3 (.int .i64 m2) F27 rfl (rn_load (isAgg_no Tryd.underlying3 rfl) (F27.get rfl) (b12.rule.1 1)) fun _ F29 => ?_; clear F27
  refine qv 4 (.bool (decide ((m1 : Int) = (m2 : Int)))) F29 rfl (rn_eql (F29.get rfl) (F29.get rfl)) fun _ F31 => ?_; clear F29
  refine qv 5 (.bool (decide ((m1 : Int) = (m2 : Int)))) F31 rfl (rn_move (F31.get rfl)) fun _ F33 => ?_; clear F31
  by_cases hc34 : (m1 : Int) = (m2 : Int)
  · skip
    refine qg 6 (.pointer (some ⟨g2, 2, none⟩)) F33 (decide_eq_true hc34) (rn_field Tryd.underlying24 rfl (by kernel_rfl) (F33.get rfl) rfl) fun _ F36 => ?_; clear F33
    refine qg 7 (.int .i64 u1) F36 (decide_eq_true hc34) (rn_load (isAgg_no Tryd.underlying3 rfl) (F36.get rfl) (b23.rule.1 2)) fun _ F38 => ?_; clear F36
    refine qg 8 (.pointer (some ⟨g10, 2, none⟩)) F38 (decide_eq_true hc34) (rn_field Tryd.underlying24 rfl (by kernel_rfl) (F38.get rfl) rfl) fun _ F40 => ?_; clear F38
    refine qg 9 (.int .i64 u2) F40 (decide_eq_true hc34) (rn_load (isAgg_no Tryd.underlying3 rfl) (F40.get rfl) (b12.rule.1 2)) fun _ F42 => ?_; clear F40
    refine qg 10 (.bool (decide ((u1 : Int) = (u2 : Int)))) F42 (decide_eq_true hc34) (rn_eql (F42.get rfl) (F42.get rfl)) fun _ F44 => ?_; clear F42
    refine qv 11 (.bool (decide ((u1 : Int) = (u2 : Int)))) F44 rfl (rn_pickT (c_true F44 rfl (decide_eq_true hc34)) (F44.get rfl)) fun _ F46 => ?_; clear F44
    refine qv 12 (.bool (decide ((u1 : Int) = (u2 : Int)))) F46 rfl (rn_move (F46.get rfl)) fun _ F48 => ?_; clear F46
    by_cases hc49 : (u1 : Int) = (u2 : Int)
    · skip
      refine qg 13 (.pointer (some ⟨g2, 0, none⟩)) F48 (decide_eq_true hc49) (rn_field Tryd.underlying24 rfl (by kernel_rfl) (F48.get rfl) rfl) fun _ F51 => ?_; clear F48
      refine qg 14 (.slice A a.length c) F51 (decide_eq_true hc49) (rn_load (isAgg_no Tryd.underlying22 rfl) (F51.get rfl) (b23.rule.1 0)) fun _ F53 => ?_; clear F51
      have d54 := ((hca.ext hx5).ext hx13)
      refine qg 15 (strOf a) F53 (decide_eq_true hc49) (rn_str (F53.get rfl) (Fl.rbs d54) Tryd.underlying22 Tryd.underlying5 Tryd.underlying9) fun _ F56 => ?_; clear F53
      refine qg 16 (.pointer (some ⟨g10, 0, none⟩)) F56 (decide_eq_true hc49) (rn_field Tryd.underlying24 rfl (by kernel_rfl) (F56.get rfl) rfl) fun _ F58 => ?_; clear F56
      refine qg 17 (.slice B b.length e) F58 (decide_eq_true hc49) (rn_load (isAgg_no Tryd.underlying22 rfl) (F58.get rfl) (b12.rule.1 0)) fun _ F60 => ?_; clear F58
      have d61 := ((hcb.ext hx5).ext hx13)
      refine qg 18 (strOf b) F60 (decide_eq_true hc49) (rn_str (F60.get rfl) (Fl.rbs d61) Tryd.underlying22 Tryd.underlying5 Tryd.underlying9) fun _ F63 => ?_; clear F60
      refine qg 19 (.bool (decide (a = b))) F63 (decide_eq_true hc49) (rn_eqs (F63.get rfl) (F63.get rfl) rfl) fun _ F65 => ?_; clear F63
      refine qv 20 (.bool (decide (a = b))) F65 rfl (rn_pickT (c_true F65 rfl (decide_eq_true hc49)) (F65.get rfl)) fun _ F67 => ?_; clear F65
      refine qv 21 (.bool (decide (a = b))) F67 rfl (rn_assign (F67.get rfl)) fun _ F69 => ?_; clear F67
      refine wpList_nil ?_
      refine hK20 _ _ ?_
      clear hK20
      have F70 := (((((F69.nil.c F69 4 rfl).c F69 3 rfl).c F69 2 rfl).c F69 1 rfl).c F69 0 rfl)
      clear F69
      refine wp_ret ?_
      refine ret1 F70 rfl rfl ?_
      exact ⟨by rw [sameK, show decide ((m1 : Int) = (m2 : Int)) = true from (decide_eq_true hc34), show decide ((u1 : Int) = (u2 : Int)) = true from (decide_eq_true hc49)]; simp only [Bool.true_and], (((Ext.refl w).trans hx5).trans hx13)⟩
    · skip
      refine qu 13 F48 (decide_eq_false hc49) fun _ F72 => ?_; clear F48
      refine qu 14 F72 (decide_eq_false hc49) fun _ F74 => ?_; clear F72
      refine qu 15 F74 (decide_eq_false hc49) fun _ F76 => ?_; clear F74
      refine qu 16 F76 (decide_eq_false hc49) fun _ F78 => ?_; clear F76
      refine qu 17 F78 (decide_eq_false hc49) fun _ F80 => ?_; clear F78
      refine qu 18 F80 (decide_eq_false hc49) fun _ F82 => ?_; clear F80
      refine qu 19 F82 (decide_eq_false hc49) fun _ F84 => ?_; clear F82
      refine qv 20 (.bool false) F84 rfl (rn_pickF (c_false F84 rfl (decide_eq_false hc49)) rfl) fun _ F86 => ?_; clear F84
      refine qv 21 (.bool false) F86 rfl (rn_assign (F86.get rfl)) fun _ F88 => ?_; clear F86
      refine wpList_nil ?_
      refine hK20 _ _ ?_
      clear hK20
      have F89 := (((((F88.nil.c F88 4 rfl).c F88 3 rfl).c F88 2 rfl).c F88 1 rfl).c F88 0 rfl)
      clear F88
      refine wp_ret ?_
      refine ret1 F89 rfl rfl ?_
      exact ⟨by rw [sameK, show decide ((m1 : Int) = (m2 : Int)) = true from (decide_eq_true hc34), show decide ((u1 : Int) = (u2 : Int)) = false from (decide_eq_false hc49)]; simp only [Bool.false_and, Bool.and_false, Bool.true_and], (((Ext.refl w).trans hx5).trans hx13)⟩
  · skip
    refine qu 6 F33 (decide_eq_false hc34) fun _ F91 => ?_; clear F33
    refine qu 7 F91 (decide_eq_false hc34) fun _ F93 => ?_; clear F91
    refine qu 8 F93 (decide_eq_false hc34) fun _ F95 => ?_; clear F93
    refine qu 9 F95 (decide_eq_false hc34) fun _ F97 => ?_; clear F95
    refine qu 10 F97 (decide_eq_false hc34) fun _ F99 => ?_; clear F97
    refine qv 11 (.bool false) F99 rfl (rn_pickF (c_false F99 rfl (decide_eq_false hc34)) rfl) fun _ F101 => ?_; clear F99
    refine qv 12 (.bool false) F101 rfl (rn_move (F101.get rfl)) fun _ F103 => ?_; clear F101
    refine qu 13 F103 rfl fun _ F105 => ?_; clear F103
    refine qu 14 F105 rfl fun _ F107 => ?_; clear F105
    refine qu 15 F107 rfl fun _ F109 => ?_; clear F107
    refine qu 16 F109 rfl fun _ F111 => ?_; clear F109
    refine qu 17 F111 rfl fun _ F113 => ?_; clear F111
    refine qu 18 F113 rfl fun _ F115 => ?_; clear F113
    refine qu 19 F115 rfl fun _ F117 => ?_; clear F115
    refine qv 20 (.bool false) F117 rfl (rn_pickF (c_false F117 rfl rfl) rfl) fun _ F119 => ?_; clear F117
    refine qv 21 (.bool false) F119 rfl (rn_assign (F119.get rfl)) fun _ F121 => ?_; clear F119
    refine wpList_nil ?_
    refine hK20 _ _ ?_
    clear hK20
    have F122 := (((((F121.nil.c F121 4 rfl).c F121 3 rfl).c F121 2 rfl).c F121 1 rfl).c F121 0 rfl)
    clear F121
    refine wp_ret ?_
    refine ret1 F122 rfl rfl ?_
    exact ⟨by rw [sameK, show decide ((m1 : Int) = (m2 : Int)) = false from (decide_eq_false hc34)]; simp only [Bool.false_and, Bool.and_false, Bool.true_and], (((Ext.refl w).trans hx5).trans hx13)⟩

theorem samek_at {S2 : Nat → Prop} {v u : Value} {n m : Nat} (a b : List UInt8) (m1 u1 m2 u2 : Int) (w : World) (ha : Fl S w 1 v n (byteVals a)) (hb : Fl S2 w 1 u m (byteVals b)) : Calls Tryd.prog 22 #[.agg #[v, .int .i64 m1, .int .i64 u1], .agg #[u, .int .i64 m2, .int .i64 u2]] w (fun e w' => e = .returned (.bool (sameK a b m1 u1 m2 u2)) ∧ Ext w w') := by
  have h1 := ha.blen
  have h2 := hb.blen
  subst h1 h2
  obtain ⟨A, c, rfl, hc⟩ := ha.form
  obtain ⟨B, e, rfl, he⟩ := hb.form
  exact samek_any A B c e a b m1 u1 m2 u2 w ha hb

set_option maxRecDepth 100000 in
set_option maxHeartbeats 1000000 in
theorem few_any (A B : Option Addr) (c n e : Nat) (sd : List UInt8) (many used : Int) (w : World) :
    Calls Tryd.prog 12 #[.agg #[.slice A sd.length c, .int .i64 many, .int .i64 used], .slice B n e] w (fun e w' => e = .returned (.bool (decide ((many ≤ 2 ∧ ((sd.length : Nat) : Int) ≤ 100) ∧ ((n : Nat) : Int) ≤ 300))) ∧ Ext w w') := by
  refine calls_enter (l := [(.agg #[(.slice A sd.length c), (.int .i64 many), (.int .i64 used)]), (.slice B n e)]) Tryd.func12 rfl rfl rfl (fun aA hF => ?_)
  refine wp_seq_k (fun K1 hK1 => ?_)
  refine wp_region_lit ?_
  refine wpl_op (i := 0) rfl (o_new (fun g => (.pointer (some ⟨g, 0, none⟩))) [(.slice A sd.length c), (.int .i64 many), (.int .i64 used)] 24 hF rfl rfl rfl rfl (rn_box (hF.get rfl) (by kernel_rfl)) ?_)
  intro g2 w3 a8 F9 z6 z7 b4 hx5; clear hF
  refine qv 1 (.bool false) F9 rfl (rn_assign rfl) fun _ F11 => ?_; clear F9
  refine wpList_nil ?_
  refine hK1 _ _ ?_
  clear hK1
  refine wp_seq_k (fun K12 hK12 => ?_)
  refine wp_region_lit ?_
  refine qv 0 (.pointer (some ⟨g2, 1, none⟩)) F11 rfl (rn_field Tryd.underlying24 rfl (by kernel_rfl) (F11.get rfl) rfl) fun _ F14 => ?_; clear F11
  refine qv 1 (.int .i64 many) F14 rfl (rn_load (isAgg_no Tryd.underlying3 rfl) (F14.get rfl) (b4.rule.1 1)) fun _ F16 => ?_; clear F14
  refine qv 2 (.bool (decide ((many : Int) ≤ (2 : Int)))) F16 rfl (rn_leq (F16.get rfl) rfl) fun _ F18 => ?_; clear F16
  refine qv 3 (.bool (decide ((many : Int) ≤ (2 : Int)))) F18 rfl (rn_move (F18.get rfl)) fun _ F20 => ?_; clear F18
  by_cases hc21 : (many : Int) ≤ (2 : Int)
  · skip
    refine qg 4 (.pointer (some ⟨g2, 0, none⟩)) F20 (decide_eq_true hc21) (rn_field Tryd.underlying24 rfl (by kernel_rfl) (F20.get rfl) rfl) fun _ F23 => ?_; clear F20
    refine qg 5 (.slice A sd.length c) F23 (decide_eq_true hc21) (rn_load (isAgg_no Tryd.underlying22 rfl) (F23.get rfl) (b4.rule.1 0)) fun _ F25 => ?_; clear F23
    refine qg 6 (.int .i64 (sd.length : Nat)) F25 (decide_eq_true hc21) (rn_len_slice Tryd.underlying22 (F25.get rfl)) fun _ F27 => ?_; clear F25
    refine qg 7 (.bool (decide (((sd.length : Nat) : Int) ≤ (100 : Int)))) F27 (decide_eq_true hc21) (rn_leq (F27.get rfl) rfl) fun _ F29 => ?_; clear F27
    refine qv 8 (.bool (decide (((sd.length : Nat) : Int) ≤ (100 : Int)))) F29 rfl (rn_pickT (c_true F29 rfl (decide_eq_true hc21)) (F29.get rfl)) fun _ F31 => ?_; clear F29
    refine qv 9 (.bool (decide (((sd.length : Nat) : Int) ≤ (100 : Int)))) F31 rfl (rn_move (F31.get rfl)) fun _ F33 => ?_; clear F31
    by_cases hc34 : ((sd.length : Nat) : Int) ≤ (100 : Int)
    · skip
      refine qg 10 (.slice B n e) F33 (decide_eq_true hc34) (rn_move (F33.get rfl)) fun _ F36 => ?_; clear F33
      refine qg 11 (.int .i64 (n : Nat)) F36 (decide_eq_true hc34) (rn_len_slice Tryd.underlying22 (F36.get rfl)) fun _ F38 => ?_; clear F36
      refine qg 12 (.bool (decide (((n : Nat) : Int) ≤ (300 : Int)))) F38 (decide_eq_true hc34) (rn_leq (F38.get rfl) rfl) fun _ F40 => ?_; clear F38
      refine qv 13 (.bool (decide (((n : Nat) : Int) ≤ (300 : Int)))) F40 rfl (rn_pickT (c_true F40 rfl (decide_eq_true hc34)) (F40.get rfl)) fun _ F42 => ?_; clear F40
      refine qv 14 (.bool (decide (((n : Nat) : Int) ≤ (300 : Int)))) F42 rfl (rn_assign (F42.get rfl)) fun _ F44 => ?_; clear F42
      refine wpList_nil ?_
      refine hK12 _ _ ?_
      clear hK12
      have F45 := ((((F44.nil.c F44 4 rfl).c F44 2 rfl).c F44 1 rfl).c F44 0 rfl)
      clear F44
      refine wp_ret ?_
      refine ret1 F45 rfl rfl ?_
      exact ⟨congrArg (fun b => Ending.returned (.bool b)) (show (decide (((n : Nat) : Int) ≤ (300 : Int))) = decide ((many ≤ 2 ∧ ((sd.length : Nat) : Int) ≤ 100) ∧ ((n : Nat) : Int) ≤ 300) from decide_eq_decide.2 ⟨fun h => by omega, fun h => by omega⟩), ((Ext.refl w).trans hx5)⟩
    · skip
      refine qu 10 F33 (decide_eq_false hc34) fun _ F47 => ?_; clear F33
      refine qu 11 F47 (decide_eq_false hc34) fun _ F49 => ?_; clear F47
      refine qu 12 F49 (decide_eq_false hc34) fun _ F51 => ?_; clear F49
      refine qv 13 (.bool false) F51 rfl (rn_pickF (c_false F51 rfl (decide_eq_false hc34)) rfl) fun _ F53 => ?_; clear F51
      refine qv 14 (.bool false) F53 rfl (rn_assign (F53.get rfl)) fun _ F55 => ?_; clear F53
      refine wpList_nil ?_
      refine hK12 _ _ ?_
      clear hK12
      have F56 := ((((F55.nil.c F55 4 rfl).c F55 2 rfl).c F55 1 rfl).c F55 0 rfl)
      clear F55
      refine wp_ret ?_
      refine ret1 F56 rfl rfl ?_
      exact ⟨by rw [decide_eq_false (by omega)], ((Ext.refl w).trans hx5)⟩
  · skip
    refine qu 4 F20 (decide_eq_false hc21) fun _ F58 => ?_; clear F20
    refine qu 5 F58 (decide_eq_false hc21) fun _ F60 => ?_; clear F58
    refine qu 6 F60 (decide_eq_false hc21) fun _ F62 => ?_; clear F60
    refine qu 7 F62 (decide_eq_false hc21) fun _ F64 => ?_; clear F62
    refine qv 8 (.bool false) F64 rfl (rn_pickF (c_false F64 rfl (decide_eq_false hc21)) rfl) fun _ F66 => ?_; clear F64
    refine qv 9 (.bool false) F66 rfl (rn_move (F66.get rfl)) fun _ F68 => ?_; clear F66
    refine qu 10 F68 rfl fun _ F70 => ?_; clear F68
    refine qu 11 F70 rfl fun _ F72 => ?_; clear F70
    refine qu 12 F72 rfl fun _ F74 => ?_; clear F72
    refine qv 13 (.bool false) F74 rfl (rn_pickF (c_false F74 rfl rfl) rfl) fun _ F76 => ?_; clear F74
    refine qv 14 (.bool false) F76 rfl (rn_assign (F76.get rfl)) fun _ F78 => ?_; clear F76
    refine wpList_nil ?_
    refine hK12 _ _ ?_
    clear hK12
    have F79 := ((((F78.nil.c F78 4 rfl).c F78 2 rfl).c F78 1 rfl).c F78 0 rfl)
    clear F78
    refine wp_ret ?_
    refine ret1 F79 rfl rfl ?_
    exact ⟨by rw [decide_eq_false (by omega)], ((Ext.refl w).trans hx5)⟩

theorem verify_at {v u1 u2 u3 : Value} {m n1 n2 n3 : Nat} {S1 S2 S3 : Nat → Prop} (root : List UInt8) (n : Int) (msg : List UInt8) (sg : Sg) (w : World) (hd : root.length = 32) (hm : Fl S w 1 v m (byteVals msg)) (ho : Fl S1 w 32 u1 n1 (digVals sg.op)) (he : Fl S2 w 32 u2 n2 (digVals sg.cl)) (hp : Fl S3 w 32 u3 n3 (digVals sg.path)) (h32o : All32 sg.op) (h32c : All32 sg.cl) (h32p : All32 sg.path) (hG : Glob w) :
    Calls Tryd.prog 18 #[.agg (byteVals root).toArray, .int .i64 n, v, .agg #[.int .i64 sg.index, u1, u2, u3]] w (fun e w' => e = .returned (.bool (verifyF root n msg sg)) ∧ Ext w w') := by
  have h1 := hm.blen
  have h2 := Fl.dlen ho h32o
  have h3 := Fl.dlen he h32c
  have h4 := Fl.dlen hp h32p
  subst h1 h2 h3 h4
  obtain ⟨B, cb, rfl, _⟩ := hm.form
  obtain ⟨O, oc, rfl, _⟩ := ho.form
  obtain ⟨C, ec, rfl, _⟩ := he.form
  obtain ⟨P, pc, rfl, _⟩ := hp.form
  exact verify_any (S := fun _ => True) root n B cb msg sg.index O oc sg.op C ec sg.cl P pc sg.path w hd (hm.sub fun _ _ => trivial) (ho.sub fun _ _ => trivial) (he.sub fun _ _ => trivial) (hp.sub fun _ _ => trivial) h32o h32c h32p hG

end Go.Proofs.YtmjgjopbeokajaaDoor

namespace Go.Proofs.YtmjgjopbeokajaaDoor
open Go.RowKit

variable {sd : List UInt8} {many used idx : Int} {msg other : List UInt8}
theorem signF_o (sd : List UInt8) (many used idx : Int) (msg : List UInt8) : All32 (signF sd many used idx msg).op := by
  unfold signF; split
  · exact opTo_32 _ _ _ _
  · exact All32.nil
theorem signF_c (sd : List UInt8) (many used idx : Int) (msg : List UInt8) : All32 (signF sd many used idx msg).cl := by
  unfold signF; split
  · exact clTo_32 _ _ _ _
  · exact All32.nil
theorem signF_p (sd : List UInt8) (many used idx : Int) (msg : List UInt8) : All32 (signF sd many used idx msg).path := by
  unfold signF; split
  · exact pathD_32 _ _ _ (Nat.le_refl _)
  · exact All32.nil
end Go.Proofs.YtmjgjopbeokajaaDoor

namespace Go.Proofs.YtmjgjopbeokajaaDoor
open Go.RowKit

variable {S S' : Nat → Prop}

set_option maxRecDepth 100000 in
set_option maxHeartbeats 1000000 in
theorem sane4 (w : World) (hG : Glob w) :
    Calls Tryd.prog 11 #[] w (fun e w' => e = .returned (.bool true) ∧ Ext w w') := by
  refine calls_enter (l := []) Tryd.func11 rfl rfl rfl (fun aA hF => ?_)
  refine wp_seq_k (fun K1 hK1 => ?_)
  refine wp_region_lit ?_
  refine qv 0 (.bool false) hF rfl (rn_assign rfl) fun _ F3 => ?_; clear hF
  refine wpList_nil ?_
  refine hK1 _ _ ?_
  clear hK1
  refine wp_seq_k (fun K4 hK4 => ?_)
  refine wp_region_lit ?_
  refine wpl_op (i := 0) rfl (o_call F3 rfl rfl rfl rfl (rn_call (args2 rfl rfl) rfl (by kernel_rfl)) (new_at (v := (.slice none 0 0)) (m := 0) ([]) 1 _ (show Fl (fun _ => False) w 1 (.slice none 0 0) 0 (byteVals []) from Fl.nil _) (by omega)) ?_)
  rintro _ w11 ⟨A5, n6, c7, rfl, hf8, hx12⟩
  have z9 := (Fl.cel hf8).2.1; have z10 := Fl.blen hf8
  refine ⟨_, rfl, ?_⟩; intro a13 F14; clear F3; have z15 := hx12.size
  have hf16 : Fl (Clip (fun b => w.heap.size ≤ b) w11) w11 1 (.slice A5 n6 c7) n6 (byteVals (newS ([]) 1)) := hf8.clip
  refine qv 1 (.tuple #[(.agg #[(.slice A5 n6 c7), (.int .i64 (newM ([]) 1)), (.int .i64 0)]), (.int .i64 (newE ([]) 1))]) F14 rfl (rn_move (F14.get rfl)) fun _ F18 => ?_; clear F14
  refine qv 2 (.agg #[(.slice A5 n6 c7), (.int .i64 (newM ([]) 1)), (.int .i64 0)]) F18 rfl (rn_extract (F18.get rfl) rfl) fun _ F20 => ?_; clear F18
  refine qv 3 (.int .i64 (newE ([]) 1)) F20 rfl (rn_extract (F20.get rfl) rfl) fun _ F22 => ?_; clear F20
  refine wpl_op (i := 4) rfl (o_new (fun g => (.pointer (some ⟨g, 0, none⟩))) [(.slice none 0 0), (.int .i64 0), (.int .i64 0)] 24 F22 rfl rfl rfl rfl (by kernel_rfl) ?_)
  intro g23 w24 a29 F30 z27 z28 b25 hx26; clear F22
  refine wpl_op (i := 5) rfl (o_store (cells := [(.slice A5 n6 c7), (.int .i64 (newM ([]) 1)), (.int .i64 0)]) F30 rfl rfl rfl rfl (F30.get rfl) (F30.get rfl) b25 inf24 rfl (by simp [Value.oneCell']) ?_)
  intro w31 b32 hg33; have z34 := hg33.size
  refine qv 6 (.int .i64 (newE ([]) 1)) F30 rfl (rn_assign (F30.get rfl)) fun _ F36 => ?_; clear F30
  refine wpList_nil ?_
  refine hK4 _ _ ?_
  clear hK4
  have F37 := ((F36.nil.c F36 2 rfl).c F36 0 rfl)
  clear F36
  refine wp_seq_k (fun K38 hK38 => ?_)
  refine wp_region_lit ?_
  refine wpl_op (i := 0) rfl (o_new (fun g => (.slice (some ⟨g, 0, none⟩) 65 65)) (byteVals (List.replicate 65 0)) 5 F37 rfl rfl rfl rfl (rn_makeN El22 rfl rfl rfl (by omega) (by omega) (by simp [byteVals])) ?_)
  intro g39 w40 a45 F46 z43 z44 b41 hx42; clear F37
  refine wpl_op (i := 1) rfl (o_call F46 rfl rfl rfl rfl (rn_call (args2 (F46.get rfl) rfl) rfl (by kernel_rfl)) (new_at (v := (.slice (some ⟨g39, 0, none⟩) 65 65)) (m := 65) (List.replicate 65 0) 1 _ (Fl.blk (S := fun b => b = g39) (k := 1) (n := 65) (c := 65) b41 (by rw [byteVals_len (List.length_replicate (n := 65) (a := (0 : UInt8))), Nat.mul_one]) (byteVals_one _) (by omega) rfl) (by omega)) ?_)
  rintro _ w53 ⟨A47, n48, c49, rfl, hf50, hx54⟩
  have z51 := (Fl.cel hf50).2.1; have z52 := Fl.blen hf50
  refine ⟨_, rfl, ?_⟩; intro a55 F56; clear F46; have z57 := hx54.size
  have hf58 : Fl (Clip (fun b => w40.heap.size ≤ b) w53) w53 1 (.slice A47 n48 c49) n48 (byteVals (newS (List.replicate 65 0) 1)) := hf50.clip
  refine qv 2 (.tuple #[(.agg #[(.slice A47 n48 c49), (.int .i64 (newM (List.replicate 65 0) 1)), (.int .i64 0)]), (.int .i64 (newE (List.replicate 65 0) 1))]) F56 rfl (rn_move (F56.get rfl)) fun _ F60 => ?_; clear F56
  refine qv 3 (.agg #[(.slice A47 n48 c49), (.int .i64 (newM (List.replicate 65 0) 1)), (.int .i64 0)]) F60 rfl (rn_extract (F60.get rfl) rfl) fun _ F62 => ?_; clear F60
  refine qv 4 (.int .i64 (newE (List.replicate 65 0) 1)) F62 rfl (rn_extract (F62.get rfl) rfl) fun _ F64 => ?_; clear F62
  refine wpl_op (i := 5) rfl (o_new (fun g => (.pointer (some ⟨g, 0, none⟩))) [(.slice none 0 0), (.int .i64 0), (.int .i64 0)] 24 F64 rfl rfl rfl rfl (by kernel_rfl) ?_)
  intro g65 w66 a71 F72 z69 z70 b67 hx68; clear F64
  refine wpl_op (i := 6) rfl (o_store (cells := [(.slice A47 n48 c49), (.int .i64 (newM (List.replicate 65 0) 1)), (.int .i64 0)]) F72 rfl rfl rfl rfl (F72.get rfl) (F72.get rfl) b67 inf24 rfl (by simp [Value.oneCell']) ?_)
  intro w73 b74 hg75; have z76 := hg75.size
  refine qv 7 (.int .i64 (newE (List.replicate 65 0) 1)) F72 rfl (rn_assign (F72.get rfl)) fun _ F78 => ?_; clear F72
  refine wpList_nil ?_
  refine hK38 _ _ ?_
  clear hK38
  have F79 := (((F78.nil.c F78 4 rfl).c F78 2 rfl).c F78 0 rfl)
  clear F78
  refine wp_seq_k (fun K80 hK80 => ?_)
  refine wp_region_lit ?_
  refine wpl_op (i := 0) rfl (o_new (fun g => (.slice (some ⟨g, 0, none⟩) 1 1)) [(.int .u8 1)] 5 F79 rfl rfl rfl rfl (rn_buildSlice (parts1 rfl) (by kernel_rfl)) ?_)
  intro g81 w82 a87 F88 z85 z86 b83 hx84; clear F79
  refine wpl_op (i := 1) rfl (o_call F88 rfl rfl rfl rfl (rn_call (args2 (F88.get rfl) rfl) rfl (by kernel_rfl)) (new_at (v := (.slice (some ⟨g81, 0, none⟩) 1 1)) (m := 1) ([(1 : UInt8)]) 4097 _ (Fl.blk (S := fun b => b = g81) (k := 1) (n := 1) (c := 1) (cs := byteVals [(1 : UInt8)]) b83 rfl (byteVals_one _) (by omega) rfl) (by omega)) ?_)
  rintro _ w95 ⟨A89, n90, c91, rfl, hf92, hx96⟩
  have z93 := (Fl.cel hf92).2.1; have z94 := Fl.blen hf92
  refine ⟨_, rfl, ?_⟩; intro a97 F98; clear F88; have z99 := hx96.size
  have hf100 : Fl (Clip (fun b => w82.heap.size ≤ b) w95) w95 1 (.slice A89 n90 c91) n90 (byteVals (newS ([(1 : UInt8)]) 4097)) := hf92.clip
  refine qv 2 (.tuple #[(.agg #[(.slice A89 n90 c91), (.int .i64 (newM ([(1 : UInt8)]) 4097)), (.int .i64 0)]), (.int .i64 (newE ([(1 : UInt8)]) 4097))]) F98 rfl (rn_move (F98.get rfl)) fun _ F102 => ?_; clear F98
  refine qv 3 (.agg #[(.slice A89 n90 c91), (.int .i64 (newM ([(1 : UInt8)]) 4097)), (.int .i64 0)]) F102 rfl (rn_extract (F102.get rfl) rfl) fun _ F104 => ?_; clear F102
  refine qv 4 (.int .i64 (newE ([(1 : UInt8)]) 4097)) F104 rfl (rn_extract (F104.get rfl) rfl) fun _ F106 => ?_; clear F104
  refine wpl_op (i := 5) rfl (o_new (fun g => (.pointer (some ⟨g, 0, none⟩))) [(.slice none 0 0), (.int .i64 0), (.int .i64 0)] 24 F106 rfl rfl rfl rfl (by kernel_rfl) ?_)
  intro g107 w108 a113 F114 z111 z112 b109 hx110; clear F106
  refine wpl_op (i := 6) rfl (o_store (cells := [(.slice A89 n90 c91), (.int .i64 (newM ([(1 : UInt8)]) 4097)), (.int .i64 0)]) F114 rfl rfl rfl rfl (F114.get rfl) (F114.get rfl) b109 inf24 rfl (by simp [Value.oneCell']) ?_)
  intro w115 b116 hg117; have z118 := hg117.size
  refine qv 7 (.int .i64 (newE ([(1 : UInt8)]) 4097)) F114 rfl (rn_assign (F114.get rfl)) fun _ F120 => ?_; clear F114
  refine wpList_nil ?_
  refine hK80 _ _ ?_
  clear hK80
  have F121 := ((((F120.nil.c F120 6 rfl).c F120 4 rfl).c F120 2 rfl).c F120 0 rfl)
  clear F120
  refine wp_seq_k (fun K122 hK122 => ?_)
  refine wp_region_lit ?_
  refine wpl_op (i := 0) rfl (o_new (fun g => (.slice (some ⟨g, 0, none⟩) 2 2)) [(.int .u8 1), (.int .u8 2)] 5 F121 rfl rfl rfl rfl (rn_buildSlice (parts2 rfl rfl) (by kernel_rfl)) ?_)
  intro g123 w124 a129 F130 z127 z128 b125 hx126; clear F121
  refine wpl_op (i := 1) rfl (o_call F130 rfl rfl rfl rfl (rn_call (args2 (F130.get rfl) rfl) rfl (by kernel_rfl)) (new_at (v := (.slice (some ⟨g123, 0, none⟩) 2 2)) (m := 2) ([(1 : UInt8), (2 : UInt8)]) 2 _ (Fl.blk (S := fun b => b = g123) (k := 1) (n := 2) (c := 2) (cs := byteVals [(1 : UInt8), (2 : UInt8)]) b125 rfl (byteVals_one _) (by omega) rfl) (by omega)) ?_)
  rintro _ w137 ⟨A131, n132, c133, rfl, hf134, hx138⟩
  have z135 := (Fl.cel hf134).2.1; have z136 := Fl.blen hf134
  refine ⟨_, rfl, ?_⟩; intro a139 F140; clear F130; have z141 := hx138.size
  have hf142 : Fl (Clip (fun b => w124.heap.size ≤ b) w137) w137 1 (.slice A131 n132 c133) n132 (byteVals (newS ([(1 : UInt8), (2 : UInt8)]) 2)) := hf134.clip
  refine qv 2 (.tuple #[(.agg #[(.slice A131 n132 c133), (.int .i64 (newM ([(1 : UInt8), (2 : UInt8)]) 2)), (.int .i64 0)]), (.int .i64 (newE ([(1 : UInt8), (2 : UInt8)]) 2))]) F140 rfl (rn_move (F140.get rfl)) fun _ F144 => ?_; clear F140
  refine qv 3 (.agg #[(.slice A131 n132 c133), (.int .i64 (newM ([(1 : UInt8), (2 : UInt8)]) 2)), (.int .i64 0)]) F144 rfl (rn_extract (F144.get rfl) rfl) fun _ F146 => ?_; clear F144
  refine qv 4 (.int .i64 (newE ([(1 : UInt8), (2 : UInt8)]) 2)) F146 rfl (rn_extract (F146.get rfl) rfl) fun _ F148 => ?_; clear F146
  refine wpl_op (i := 5) rfl (o_new (fun g => (.pointer (some ⟨g, 0, none⟩))) [(.slice none 0 0), (.int .i64 0), (.int .i64 0)] 24 F148 rfl rfl rfl rfl (by kernel_rfl) ?_)
  intro g149 w150 a155 F156 z153 z154 b151 hx152; clear F148
  refine wpl_op (i := 6) rfl (o_store (cells := [(.slice A131 n132 c133), (.int .i64 (newM ([(1 : UInt8), (2 : UInt8)]) 2)), (.int .i64 0)]) F156 rfl rfl rfl rfl (F156.get rfl) (F156.get rfl) b151 inf24 rfl (by simp [Value.oneCell']) ?_)
  intro w157 b158 hg159; have z160 := hg159.size
  refine qv 7 (.int .i64 (newE ([(1 : UInt8), (2 : UInt8)]) 2)) F156 rfl (rn_assign (F156.get rfl)) fun _ F162 => ?_; clear F156
  refine wpList_nil ?_
  refine hK122 _ _ ?_
  clear hK122
  have F163 := ((((((F162.nil.c F162 8 rfl).c F162 7 rfl).c F162 6 rfl).c F162 4 rfl).c F162 2 rfl).c F162 0 rfl)
  clear F162
  refine wp_seq_k (fun K164 hK164 => ?_)
  refine wp_region_lit ?_
  refine wpl_op (i := 0) rfl (o_new (fun g => (.slice (some ⟨g, 0, none⟩) 1 1)) [(.int .u8 1)] 5 F163 rfl rfl rfl rfl (rn_buildSlice (parts1 rfl) (by kernel_rfl)) ?_)
  intro g165 w166 a171 F172 z169 z170 b167 hx168; clear F163
  refine qv 1 (.agg #[(.slice (some ⟨g165, 0, none⟩) 1 1), (.int .i64 1), (.int .i64 0)]) F172 rfl (rn_build (parts2 (F172.get rfl) rfl) (by kernel_rfl)) fun _ F174 => ?_; clear F172
  refine wpl_op (i := 2) rfl (o_call F174 rfl rfl rfl rfl (rn_call (args3 (F174.get rfl) rfl rfl) rfl (by kernel_rfl)) (sign_at (v := (.slice (some ⟨g165, 0, none⟩) 1 1)) (m := 1) (u := (.slice none 0 0)) (n := 0) ([(1 : UInt8)]) 1 0 1 ([]) _ (Fl.blk (S := fun b => b = g165) (k := 1) (n := 1) (c := 1) (cs := byteVals [(1 : UInt8)]) b167 rfl (byteVals_one _) (by omega) rfl) (show Fl (fun _ => False) w166 1 (.slice none 0 0) 0 (byteVals []) from Fl.nil _) (hG.ext (((((((((((((((((Ext.refl w).trans hx12).trans hx26).grownN hg33 (by omega)).trans hx42).trans hx54).trans hx68).grownN hg75 (by omega)).trans hx84).trans hx96).trans hx110).grownN hg117 (by omega)).trans hx126).trans hx138).trans hx152).grownN hg159 (by omega)).trans hx168))) ?_)
  obtain ⟨sg187, hsg188⟩ : ∃ z, z = signF ([(1 : UInt8)]) 1 0 1 ([]) := ⟨_, rfl⟩
  rw [← hsg188]
  rintro _ w189 ⟨A175, n176, c177, A178, n179, c180, A181, n182, c183, rfl, hf184, hf185, hf186, hx190⟩
  have h32191 : All32 sg187.op := by rw [hsg188]; exact signF_o _ _ _ _ _
  have z192 := (Fl.cel hf184).2.1; have z193 := Fl.dlen hf184 h32191
  have h32194 : All32 sg187.cl := by rw [hsg188]; exact signF_c _ _ _ _ _
  have z195 := (Fl.cel hf185).2.1; have z196 := Fl.dlen hf185 h32194
  have h32197 : All32 sg187.path := by rw [hsg188]; exact signF_p _ _ _ _ _
  have z198 := (Fl.cel hf186).2.1; have z199 := Fl.dlen hf186 h32197
  refine ⟨_, rfl, ?_⟩; intro a200 F201; clear F174; have z202 := hx190.size
  have hf203 : Fl (Clip (fun b => w166.heap.size ≤ b) w189) w189 32 (.slice A175 n176 c177) n176 (digVals sg187.op) := hf184.clip
  have hf204 : Fl (Clip (fun b => w166.heap.size ≤ b) w189) w189 32 (.slice A178 n179 c180) n179 (digVals sg187.cl) := hf185.clip
  have hf205 : Fl (Clip (fun b => w166.heap.size ≤ b) w189) w189 32 (.slice A181 n182 c183) n182 (digVals sg187.path) := hf186.clip
  refine qv 3 (.tuple #[(.agg #[(.int .i64 sg187.index), (.slice A175 n176 c177), (.slice A178 n179 c180), (.slice A181 n182 c183)]), (.int .i64 (signE ([(1 : UInt8)]) 1 0 1 ([])))]) F201 rfl (rn_move (F201.get rfl)) fun _ F207 => ?_; clear F201
  refine qv 4 (.agg #[(.int .i64 sg187.index), (.slice A175 n176 c177), (.slice A178 n179 c180), (.slice A181 n182 c183)]) F207 rfl (rn_extract (F207.get rfl) rfl) fun _ F209 => ?_; clear F207
  refine qv 5 (.int .i64 (signE ([(1 : UInt8)]) 1 0 1 ([]))) F209 rfl (rn_extract (F209.get rfl) rfl) fun _ F211 => ?_; clear F209
  refine wpl_op (i := 6) rfl (o_new (fun g => (.pointer (some ⟨g, 0, none⟩))) [(.int .i64 0), (.slice none 0 0), (.slice none 0 0), (.slice none 0 0)] 30 F211 rfl rfl rfl rfl (by kernel_rfl) ?_)
  intro g212 w213 a218 F219 z216 z217 b214 hx215; clear F211
  refine wpl_op (i := 7) rfl (o_store (cells := [(.int .i64 sg187.index), (.slice A175 n176 c177), (.slice A178 n179 c180), (.slice A181 n182 c183)]) F219 rfl rfl rfl rfl (F219.get rfl) (F219.get rfl) b214 inf30 rfl (by simp [Value.oneCell']) ?_)
  intro w220 b221 hg222; have z223 := hg222.size
  refine qv 8 (.int .i64 (signE ([(1 : UInt8)]) 1 0 1 ([]))) F219 rfl (rn_assign (F219.get rfl)) fun _ F225 => ?_; clear F219
  refine wpList_nil ?_
  refine hK164 _ _ ?_
  clear hK164
  have F226 := (((((((F225.nil.c F225 10 rfl).c F225 8 rfl).c F225 7 rfl).c F225 6 rfl).c F225 4 rfl).c F225 2 rfl).c F225 0 rfl)
  clear F225
  refine wp_seq_k (fun K227 hK227 => ?_)
  refine wp_region_lit ?_
  refine qv 0 (.int .i64 (newE ([]) 1)) F226 rfl (rn_move (F226.get rfl)) fun _ F229 => ?_; clear F226
  refine qv 1 (.bool (decide (((newE ([]) 1) : Int) = (40 : Int)))) F229 rfl (rn_eql (F229.get rfl) rfl) fun _ F231 => ?_; clear F229
  refine qv 2 (.bool (decide (((newE ([]) 1) : Int) = (40 : Int)))) F231 rfl (rn_move (F231.get rfl)) fun _ F233 => ?_; clear F231
  refine qg 3 (.int .i64 (newE (List.replicate 65 0) 1)) F233 ((decide_eq_true (by decide)) : decide (((newE ([]) 1) : Int) = (40 : Int)) = true) (rn_move (F233.get rfl)) fun _ F236 => ?_; clear F233
  refine qg 4 (.bool (decide (((newE (List.replicate 65 0) 1) : Int) = (40 : Int)))) F236 ((decide_eq_true (by decide)) : decide (((newE ([]) 1) : Int) = (40 : Int)) = true) (rn_eql (F236.get rfl) rfl) fun _ F238 => ?_; clear F236
  refine qv 5 (.bool (decide (((newE (List.replicate 65 0) 1) : Int) = (40 : Int)))) F238 rfl (rn_pickT (c_true F238 rfl ((decide_eq_true (by decide)) : decide (((newE ([]) 1) : Int) = (40 : Int)) = true)) (F238.get rfl)) fun _ F240 => ?_; clear F238
  refine qv 6 (.bool (decide (((newE (List.replicate 65 0) 1) : Int) = (40 : Int)))) F240 rfl (rn_move (F240.get rfl)) fun _ F242 => ?_; clear F240
  refine qg 7 (.int .i64 (newE ([(1 : UInt8)]) 4097)) F242 ((decide_eq_true (by decide)) : decide (((newE (List.replicate 65 0) 1) : Int) = (40 : Int)) = true) (rn_move (F242.get rfl)) fun _ F245 => ?_; clear F242
  refine qg 8 (.bool (decide (((newE ([(1 : UInt8)]) 4097) : Int) = (40 : Int)))) F245 ((decide_eq_true (by decide)) : decide (((newE (List.replicate 65 0) 1) : Int) = (40 : Int)) = true) (rn_eql (F245.get rfl) rfl) fun _ F247 => ?_; clear F245
  refine qv 9 (.bool (decide (((newE ([(1 : UInt8)]) 4097) : Int) = (40 : Int)))) F247 rfl (rn_pickT (c_true F247 rfl ((decide_eq_true (by decide)) : decide (((newE (List.replicate 65 0) 1) : Int) = (40 : Int)) = true)) (F247.get rfl)) fun _ F249 => ?_; clear F247
  refine qv 10 (.bool (decide (((newE ([(1 : UInt8)]) 4097) : Int) = (40 : Int)))) F249 rfl (rn_move (F249.get rfl)) fun _ F251 => ?_; clear F249
  refine qg 11 (.int .i64 (newE ([(1 : UInt8), (2 : UInt8)]) 2)) F251 ((decide_eq_true (by decide)) : decide (((newE ([(1 : UInt8)]) 4097) : Int) = (40 : Int)) = true) (rn_move (F251.get rfl)) fun _ F254 => ?_; clear F251
  refine qg 12 (.bool (decide (((newE ([(1 : UInt8), (2 : UInt8)]) 2) : Int) = (0 : Int)))) F254 ((decide_eq_true (by decide)) : decide (((newE ([(1 : UInt8)]) 4097) : Int) = (40 : Int)) = true) (rn_eql (F254.get rfl) rfl) fun _ F256 => ?_; clear F254
  refine qv 13 (.bool (decide (((newE ([(1 : UInt8), (2 : UInt8)]) 2) : Int) = (0 : Int)))) F256 rfl (rn_pickT (c_true F256 rfl ((decide_eq_true (by decide)) : decide (((newE ([(1 : UInt8)]) 4097) : Int) = (40 : Int)) = true)) (F256.get rfl)) fun _ F258 => ?_; clear F256
  refine qv 14 (.bool (decide (((newE ([(1 : UInt8), (2 : UInt8)]) 2) : Int) = (0 : Int)))) F258 rfl (rn_move (F258.get rfl)) fun _ F260 => ?_; clear F258
  refine qg 15 (.pointer (some ⟨g149, 1, none⟩)) F260 ((decide_eq_true (by decide)) : decide (((newE ([(1 : UInt8), (2 : UInt8)]) 2) : Int) = (0 : Int)) = true) (rn_field Tryd.underlying24 rfl (by kernel_rfl) (F260.get rfl) rfl) fun _ F263 => ?_; clear F260
  have b264 := ((((b158.ext hx168).ext hx190).ext hx215).grownN hg222 (by omega))
  refine qg 16 (.int .i64 (newM ([(1 : UInt8), (2 : UInt8)]) 2)) F263 ((decide_eq_true (by decide)) : decide (((newE ([(1 : UInt8), (2 : UInt8)]) 2) : Int) = (0 : Int)) = true) (rn_load (isAgg_no Tryd.underlying3 rfl) (F263.get rfl) (b264.rule.1 1)) fun _ F266 => ?_; clear F263
  refine qg 17 (.bool (decide (((newM ([(1 : UInt8), (2 : UInt8)]) 2) : Int) = (2 : Int)))) F266 ((decide_eq_true (by decide)) : decide (((newE ([(1 : UInt8), (2 : UInt8)]) 2) : Int) = (0 : Int)) = true) (rn_eql (F266.get rfl) rfl) fun _ F268 => ?_; clear F266
  refine qv 18 (.bool (decide (((newM ([(1 : UInt8), (2 : UInt8)]) 2) : Int) = (2 : Int)))) F268 rfl (rn_pickT (c_true F268 rfl ((decide_eq_true (by decide)) : decide (((newE ([(1 : UInt8), (2 : UInt8)]) 2) : Int) = (0 : Int)) = true)) (F268.get rfl)) fun _ F270 => ?_; clear F268
  refine qv 19 (.bool (decide (((newM ([(1 : UInt8), (2 : UInt8)]) 2) : Int) = (2 : Int)))) F270 rfl (rn_move (F270.get rfl)) fun _ F272 => ?_; clear F270
  refine qg 20 (.pointer (some ⟨g149, 2, none⟩)) F272 ((decide_eq_true (by decide)) : decide (((newM ([(1 : UInt8), (2 : UInt8)]) 2) : Int) = (2 : Int)) = true) (rn_field Tryd.underlying24 rfl (by kernel_rfl) (F272.get rfl) rfl) fun _ F275 => ?_; clear F272
  refine qg 21 (.int .i64 0) F275 ((decide_eq_true (by decide)) : decide (((newM ([(1 : UInt8), (2 : UInt8)]) 2) : Int) = (2 : Int)) = true) (rn_load (isAgg_no Tryd.underlying3 rfl) (F275.get rfl) (b264.rule.1 2)) fun _ F277 => ?_; clear F275
  refine qg 22 (.bool true) F277 ((decide_eq_true (by decide)) : decide (((newM ([(1 : UInt8), (2 : UInt8)]) 2) : Int) = (2 : Int)) = true) (rn_eql' (F277.get rfl) rfl (by decide)) fun _ F279 => ?_; clear F277
  refine qv 23 (.bool true) F279 rfl (rn_pickT (c_true F279 rfl ((decide_eq_true (by decide)) : decide (((newM ([(1 : UInt8), (2 : UInt8)]) 2) : Int) = (2 : Int)) = true)) (F279.get rfl)) fun _ F281 => ?_; clear F279
  refine qv 24 (.bool true) F281 rfl (rn_move (F281.get rfl)) fun _ F283 => ?_; clear F281
  refine qg 25 (.int .i64 (signE ([(1 : UInt8)]) 1 0 1 ([]))) F283 rfl (rn_move (F283.get rfl)) fun _ F285 => ?_; clear F283
  refine qg 26 (.bool (decide (((signE ([(1 : UInt8)]) 1 0 1 ([])) : Int) = (40 : Int)))) F285 rfl (rn_eql (F285.get rfl) rfl) fun _ F287 => ?_; clear F285
  refine qv 27 (.bool (decide (((signE ([(1 : UInt8)]) 1 0 1 ([])) : Int) = (40 : Int)))) F287 rfl (rn_pickT (c_true F287 rfl rfl) (F287.get rfl)) fun _ F289 => ?_; clear F287
  refine qv 28 (.bool (decide (((signE ([(1 : UInt8)]) 1 0 1 ([])) : Int) = (40 : Int)))) F289 rfl (rn_move (F289.get rfl)) fun _ F291 => ?_; clear F289
  refine qg 29 (.agg (byteVals (List.replicate 32 0)).toArray) F291 ((decide_eq_true (by decide)) : decide (((signE ([(1 : UInt8)]) 1 0 1 ([])) : Int) = (40 : Int)) = true) (rn_build parts0 (by kernel_rfl)) fun _ F294 => ?_; clear F291
  refine wpl_op (i := 30) rfl (o_call F294 rfl (wanted_guard rfl rfl rfl F294 rfl ((decide_eq_true (by decide)) : decide (((signE ([(1 : UInt8)]) 1 0 1 ([])) : Int) = (40 : Int)) = true) rfl) rfl rfl (rn_call (args3 (F294.get rfl) rfl rfl) rfl (by kernel_rfl)) (bits_at (v := (.slice none 0 0)) (m := 0) (List.replicate 32 0) (-1) ([]) _ (show List.length (List.replicate 32 0) = _ from List.length_replicate) (show Fl (fun _ => False) w220 1 (.slice none 0 0) 0 (byteVals []) from Fl.nil _) (hG.ext ((((((((((((((((((((Ext.refl w).trans hx12).trans hx26).grownN hg33 (by omega)).trans hx42).trans hx54).trans hx68).grownN hg75 (by omega)).trans hx84).trans hx96).trans hx110).grownN hg117 (by omega)).trans hx126).trans hx138).trans hx152).grownN hg159 (by omega)).trans hx168).trans hx190).trans hx215).grownN hg222 (by omega))) (by omega)) ?_)
  rintro _ w301 ⟨A295, n296, c297, rfl, hf298, hx302⟩
  have z299 := (Fl.cel hf298).2.1; have z300 := Fl.blen2 hf298
  refine ⟨_, rfl, ?_⟩; intro a303 F304; clear F294; have z305 := hx302.size
  have hf306 : Fl (Clip (fun b => w220.heap.size ≤ b) w301) w301 1 (.slice A295 n296 c297) n296 (boolVals (bitsR (List.replicate 32 0) (-1) ([]))) := hf298.clip
  refine qg 31 (.int .i64 (n296 : Nat)) F304 ((decide_eq_true (by decide)) : decide (((signE ([(1 : UInt8)]) 1 0 1 ([])) : Int) = (40 : Int)) = true) (rn_len_slice Tryd.underlying44 (F304.get rfl)) fun _ F308 => ?_; clear F304
  refine qg 32 (.bool (decide (((n296 : Nat) : Int) = (0 : Int)))) F308 ((decide_eq_true (by decide)) : decide (((signE ([(1 : UInt8)]) 1 0 1 ([])) : Int) = (40 : Int)) = true) (rn_eql (F308.get rfl) rfl) fun _ F310 => ?_; clear F308
  refine qv 33 (.bool (decide (((n296 : Nat) : Int) = (0 : Int)))) F310 rfl (rn_pickT (c_true F310 rfl ((decide_eq_true (by decide)) : decide (((signE ([(1 : UInt8)]) 1 0 1 ([])) : Int) = (40 : Int)) = true)) (F310.get rfl)) fun _ F312 => ?_; clear F310
  refine qv 34 (.bool (decide (((n296 : Nat) : Int) = (0 : Int)))) F312 rfl (rn_move (F312.get rfl)) fun _ F314 => ?_; clear F312
  refine qg 35 (.agg (byteVals (List.replicate 32 0)).toArray) F314 ((decide_eq_true (by have hq : (bitsR (List.replicate 32 0) (-1) ([])).length = 0 := (by rw [bitsR_out (by omega)]; rfl); omega)) : decide (((n296 : Nat) : Int) = (0 : Int)) = true) (rn_build parts0 (by kernel_rfl)) fun _ F317 => ?_; clear F314
  refine wpl_op (i := 36) rfl (o_call F317 rfl (wanted_guard rfl rfl rfl F317 rfl ((decide_eq_true (by have hq : (bitsR (List.replicate 32 0) (-1) ([])).length = 0 := (by rw [bitsR_out (by omega)]; rfl); omega)) : decide (((n296 : Nat) : Int) = (0 : Int)) = true) rfl) rfl rfl (rn_call (args3 (F317.get rfl) rfl rfl) rfl (by kernel_rfl)) (bits_at (v := (.slice none 0 0)) (m := 0) (List.replicate 32 0) 0 ([]) _ (show List.length (List.replicate 32 0) = _ from List.length_replicate) (show Fl (fun _ => False) w301 1 (.slice none 0 0) 0 (byteVals []) from Fl.nil _) (hG.ext (((((((((((((((((((((Ext.refl w).trans hx12).trans hx26).grownN hg33 (by omega)).trans hx42).trans hx54).trans hx68).grownN hg75 (by omega)).trans hx84).trans hx96).trans hx110).grownN hg117 (by omega)).trans hx126).trans hx138).trans hx152).grownN hg159 (by omega)).trans hx168).trans hx190).trans hx215).grownN hg222 (by omega)).trans hx302)) (by omega)) ?_)
  rintro _ w324 ⟨A318, n319, c320, rfl, hf321, hx325⟩
  have z322 := (Fl.cel hf321).2.1; have z323 := Fl.blen2 hf321
  refine ⟨_, rfl, ?_⟩; intro a326 F327; clear F317; have z328 := hx325.size
  have hf329 : Fl (Clip (fun b => w301.heap.size ≤ b) w324) w324 1 (.slice A318 n319 c320) n319 (boolVals (bitsR (List.replicate 32 0) 0 ([]))) := hf321.clip
  refine qg 37 (.int .i64 (n319 : Nat)) F327 ((decide_eq_true (by have hq : (bitsR (List.replicate 32 0) (-1) ([])).length = 0 := (by rw [bitsR_out (by omega)]; rfl); omega)) : decide (((n296 : Nat) : Int) = (0 : Int)) = true) (rn_len_slice Tryd.underlying44 (F327.get rfl)) fun _ F331 => ?_; clear F327
  refine qg 38 (.bool (decide (((n319 : Nat) : Int) = (64 : Int)))) F331 ((decide_eq_true (by have hq : (bitsR (List.replicate 32 0) (-1) ([])).length = 0 := (by rw [bitsR_out (by omega)]; rfl); omega)) : decide (((n296 : Nat) : Int) = (0 : Int)) = true) (rn_eql (F331.get rfl) rfl) fun _ F333 => ?_; clear F331
  refine qv 39 (.bool (decide (((n319 : Nat) : Int) = (64 : Int)))) F333 rfl (rn_pickT (c_true F333 rfl ((decide_eq_true (by have hq : (bitsR (List.replicate 32 0) (-1) ([])).length = 0 := (by rw [bitsR_out (by omega)]; rfl); omega)) : decide (((n296 : Nat) : Int) = (0 : Int)) = true)) (F333.get rfl)) fun _ F335 => ?_; clear F333
  refine qv 40 (.bool (decide (((n319 : Nat) : Int) = (64 : Int)))) F335 rfl (rn_move (F335.get rfl)) fun _ F337 => ?_; clear F335
  refine qg 41 (.agg (byteVals (List.replicate 32 0)).toArray) F337 ((decide_eq_true (by have hq : (bitsR (List.replicate 32 0) 0 ([])).length = 64 := (by rw [bitsR_in (by omega)]; exact bitsL_len _ _ _); omega)) : decide (((n319 : Nat) : Int) = (64 : Int)) = true) (rn_build parts0 (by kernel_rfl)) fun _ F340 => ?_; clear F337
  refine qg 42 (.agg #[(.int .i64 0), (.slice none 0 0), (.slice none 0 0), (.slice none 0 0)]) F340 ((decide_eq_true (by have hq : (bitsR (List.replicate 32 0) 0 ([])).length = 64 := (by rw [bitsR_in (by omega)]; exact bitsL_len _ _ _); omega)) : decide (((n319 : Nat) : Int) = (64 : Int)) = true) (rn_build (parts0 ) (by kernel_rfl)) fun _ F342 => ?_; clear F340
  refine wpl_op (i := 43) rfl (o_call F342 rfl (wanted_guard rfl rfl rfl F342 rfl ((decide_eq_true (by have hq : (bitsR (List.replicate 32 0) 0 ([])).length = 64 := (by rw [bitsR_in (by omega)]; exact bitsL_len _ _ _); omega)) : decide (((n319 : Nat) : Int) = (64 : Int)) = true) rfl) rfl rfl (rn_call (args4 (F342.get rfl) rfl rfl (F342.get rfl)) rfl (by kernel_rfl)) (verify_at (v := (.slice none 0 0)) (m := 0) (u1 := (.slice none 0 0)) (u2 := (.slice none 0 0)) (u3 := (.slice none 0 0)) (n1 := 0) (n2 := 0) (n3 := 0) (List.replicate 32 0) 0 ([]) ⟨0, [], [], []⟩ _ (show List.length (List.replicate 32 0) = _ from List.length_replicate) (show Fl (fun _ => False) w324 1 (.slice none 0 0) 0 (byteVals []) from Fl.nil _) (show Fl (fun _ => False) w324 32 (.slice none 0 0) 0 (digVals []) from Fl.nil _) (show Fl (fun _ => False) w324 32 (.slice none 0 0) 0 (digVals []) from Fl.nil _) (show Fl (fun _ => False) w324 32 (.slice none 0 0) 0 (digVals []) from Fl.nil _) All32.nil All32.nil All32.nil (hG.ext ((((((((((((((((((((((Ext.refl w).trans hx12).trans hx26).grownN hg33 (by omega)).trans hx42).trans hx54).trans hx68).grownN hg75 (by omega)).trans hx84).trans hx96).trans hx110).grownN hg117 (by omega)).trans hx126).trans hx138).trans hx152).grownN hg159 (by omega)).trans hx168).trans hx190).trans hx215).grownN hg222 (by omega)).trans hx302).trans hx325))) ?_)
  rintro _ w343 ⟨rfl, hx344⟩
  refine ⟨_, rfl, ?_⟩; intro a345 F346; clear F342; have z347 := hx344.size
  refine qg 44 (.bool (!(verifyF (List.replicate 32 0) 0 ([]) ⟨0, [], [], []⟩))) F346 ((decide_eq_true (by have hq : (bitsR (List.replicate 32 0) 0 ([])).length = 64 := (by rw [bitsR_in (by omega)]; exact bitsL_len _ _ _); omega)) : decide (((n319 : Nat) : Int) = (64 : Int)) = true) (rn_not' (F346.get rfl) rfl) fun _ F349 => ?_; clear F346
  refine qv 45 (.bool (!(verifyF (List.replicate 32 0) 0 ([]) ⟨0, [], [], []⟩))) F349 rfl (rn_pickT (c_true F349 rfl ((decide_eq_true (by have hq : (bitsR (List.replicate 32 0) 0 ([])).length = 64 := (by rw [bitsR_in (by omega)]; exact bitsL_len _ _ _); omega)) : decide (((n319 : Nat) : Int) = (64 : Int)) = true)) (F349.get rfl)) fun _ F351 => ?_; clear F349
  refine qv 46 (.bool (!(verifyF (List.replicate 32 0) 0 ([]) ⟨0, [], [], []⟩))) F351 rfl (rn_move (F351.get rfl)) fun _ F353 => ?_; clear F351
  refine qg 47 (.agg (byteVals (List.replicate 32 0)).toArray) F353 (not_f ((verify_not (by unfold vShape; simp)) : verifyF (List.replicate 32 0) 0 ([]) ⟨0, [], [], []⟩ = false)) (rn_build parts0 (by kernel_rfl)) fun _ F356 => ?_; clear F353
  refine qg 48 (.agg #[(.int .i64 0), (.slice none 0 0), (.slice none 0 0), (.slice none 0 0)]) F356 (not_f ((verify_not (by unfold vShape; simp)) : verifyF (List.replicate 32 0) 0 ([]) ⟨0, [], [], []⟩ = false)) (rn_build (parts0 ) (by kernel_rfl)) fun _ F358 => ?_; clear F356
  refine wpl_op (i := 49) rfl (o_call F358 rfl (wanted_guard rfl rfl rfl F358 rfl (not_f ((verify_not (by unfold vShape; simp)) : verifyF (List.replicate 32 0) 0 ([]) ⟨0, [], [], []⟩ = false)) rfl) rfl rfl (rn_call (args4 (F358.get rfl) rfl rfl (F358.get rfl)) rfl (by kernel_rfl)) (verify_at (v := (.slice none 0 0)) (m := 0) (u1 := (.slice none 0 0)) (u2 := (.slice none 0 0)) (u3 := (.slice none 0 0)) (n1 := 0) (n2 := 0) (n3 := 0) (List.replicate 32 0) 1 ([]) ⟨0, [], [], []⟩ _ (show List.length (List.replicate 32 0) = _ from List.length_replicate) (show Fl (fun _ => False) w343 1 (.slice none 0 0) 0 (byteVals []) from Fl.nil _) (show Fl (fun _ => False) w343 32 (.slice none 0 0) 0 (digVals []) from Fl.nil _) (show Fl (fun _ => False) w343 32 (.slice none 0 0) 0 (digVals []) from Fl.nil _) (show Fl (fun _ => False) w343 32 (.slice none 0 0) 0 (digVals []) from Fl.nil _) All32.nil All32.nil All32.nil (hG.ext (((((((((((((((((((((((Ext.refl w).trans hx12).trans hx26).grownN hg33 (by omega)).trans hx42).trans hx54).trans hx68).grownN hg75 (by omega)).trans hx84).trans hx96).trans hx110).grownN hg117 (by omega)).trans hx126).trans hx138).trans hx152).grownN hg159 (by omega)).trans hx168).trans hx190).trans hx215).grownN hg222 (by omega)).trans hx302).trans hx325).trans hx344))) ?_)
  rintro _ w359 ⟨rfl, hx360⟩
  refine ⟨_, rfl, ?_⟩; intro a361 F362; clear F358; have z363 := hx360.size
  refine qg 50 (.bool (!(verifyF (List.replicate 32 0) 1 ([]) ⟨0, [], [], []⟩))) F362 (not_f ((verify_not (by unfold vShape; simp)) : verifyF (List.replicate 32 0) 0 ([]) ⟨0, [], [], []⟩ = false)) (rn_not' (F362.get rfl) rfl) fun _ F365 => ?_; clear F362
  refine qv 51 (.bool (!(verifyF (List.replicate 32 0) 1 ([]) ⟨0, [], [], []⟩))) F365 rfl (rn_pickT (c_true F365 rfl (not_f ((verify_not (by unfold vShape; simp)) : verifyF (List.replicate 32 0) 0 ([]) ⟨0, [], [], []⟩ = false))) (F365.get rfl)) fun _ F367 => ?_; clear F365
  refine qv 52 (.bool (!(verifyF (List.replicate 32 0) 1 ([]) ⟨0, [], [], []⟩))) F367 rfl (rn_assign (F367.get rfl)) fun _ F369 => ?_; clear F367
  refine wpList_nil ?_
  refine hK227 _ _ ?_
  clear hK227
  have F370 := (((((((F369.nil.c F369 10 rfl).c F369 8 rfl).c F369 7 rfl).c F369 6 rfl).c F369 4 rfl).c F369 2 rfl).c F369 0 rfl)
  clear F369
  refine wp_ret ?_
  refine ret1 F370 rfl rfl ?_
  exact ⟨congrArg (fun b => Ending.returned (.bool b)) ((not_f ((verify_not (by unfold vShape; simp)) : verifyF (List.replicate 32 0) 1 ([]) ⟨0, [], [], []⟩ = false)) : (!(verifyF (List.replicate 32 0) 1 ([]) ⟨0, [], [], []⟩)) = true), ((((((((((((((((((((((((Ext.refl w).trans hx12).trans hx26).grownN hg33 (by omega)).trans hx42).trans hx54).trans hx68).grownN hg75 (by omega)).trans hx84).trans hx96).trans hx110).grownN hg117 (by omega)).trans hx126).trans hx138).trans hx152).grownN hg159 (by omega)).trans hx168).trans hx190).trans hx215).grownN hg222 (by omega)).trans hx302).trans hx325).trans hx344).trans hx360)⟩

end Go.Proofs.YtmjgjopbeokajaaDoor
